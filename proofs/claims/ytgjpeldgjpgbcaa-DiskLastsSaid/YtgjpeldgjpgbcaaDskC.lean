/- The disk's functions Append and Cut, over abstract states. -/
import Derived.Test.YtgjpeldgjpgbcaaDskB
namespace Go.Proofs.Ytgjpeldgjpgbcaa
set_option linter.unusedSimpArgs false
set_option linter.unusedVariables false
set_option maxRecDepth 100000
open Go.RowKit

def upd {α : Type} (f : Nat → α) (i : Nat) (v : α) : Nat → α := fun j => if j = i then v else f j
def leftD (d : DiskD) : Int := d.room - (d.n 0).length - (d.n 1).length - (d.n 2).length - (d.n 3).length
def pushD (d : DiskD) (i : Nat) (x : List UInt8) (n : Int) : DiskD := { d with n := upd d.n i (d.n i ++ x), q := d.q ++ [⟨i, false, 0, x⟩], waits := d.waits + n }
def appD (d : DiskD) (i : Nat) (b : List UInt8) : DiskD := if d.dark = true then d else if leftD d < b.length then d else if 0 < burnN d b.length then pushD (burnD d b.length) i (b.take (burnN d b.length).toNat) (burnN d b.length) else burnD d b.length
def appR (d : DiskD) (b : List UInt8) : Int := if d.dark = true then 10 else if leftD d < b.length then 9 else if (burnD d b.length).dark = true then 10 else 0
def cutD1 (d : DiskD) (i : Nat) (n : Nat) : DiskD := { d with n := upd d.n i ((d.n i).take n), nf := upd d.nf i (d.nf i && (byA (d.n i)).isEmpty), q := d.q ++ [⟨i, true, n, []⟩], waits := d.waits + 1 }
def cutD (d : DiskD) (i : Nat) (n : Int) : DiskD := if n < 0 ∨ ((d.n i).length : Int) < n then d else if d.dark = true then d else if burnN d 1 = 0 then burnD d 1 else cutD1 (burnD d 1) i n.toNat
def cutR (d : DiskD) (i : Nat) (n : Int) : Int := if n < 0 ∨ ((d.n i).length : Int) < n then 2 else if d.dark = true then 10 else if burnN d 1 = 0 then 10 else 0
/-- Sizes that no walk outgrows. -/
structure DiskD.Fit (d : DiskD) : Prop where
  room : 0 ≤ d.room ∧ d.room ≤ 200000
  fuse : 0 ≤ d.fuse ∧ d.fuse < 9223372036854775808
  n : ∀ i, (d.n i).length ≤ 1099511627776
  w : 0 ≤ d.waits ∧ d.waits ≤ 1099511627776
  q : d.q.length ≤ 1099511627776
theorem burnN_le {d : DiskD} {n : Int} (h : d.Fit) (hn : 0 ≤ n) : 0 ≤ burnN d n ∧ burnN d n ≤ n := by
  have := h.fuse
  unfold burnN
  split <;> omega
section
variable {d : DiskD} {b : List UInt8} {i : Nat} {n : Int} {v : Bool}
theorem app_dark (h : d.dark = true) : appR d b = 10 ∧ appD d i b = d := by simp only [appR, appD, h, if_true, and_self]
theorem app_full (h : d.dark = false) (h2 : leftD d < b.length) : appR d b = 9 ∧ appD d i b = d := by simp only [appR, appD, h, h2, if_true, if_false, Bool.false_eq_true, and_self]
theorem app_go (h : d.dark = false) (h2 : ¬ leftD d < b.length) (h3 : 0 < burnN d b.length) (h4 : (burnD d b.length).dark = v) : appR d b = (if v = true then 10 else 0) ∧ appD d i b = pushD (burnD d b.length) i (b.take (burnN d b.length).toNat) (burnN d b.length) := by simp only [appR, appD, h, h2, h3, h4, if_true, if_false, Bool.false_eq_true, and_self]
theorem app_no (h : d.dark = false) (h2 : ¬ leftD d < b.length) (h3 : ¬ 0 < burnN d b.length) (h4 : (burnD d b.length).dark = v) : appR d b = (if v = true then 10 else 0) ∧ appD d i b = burnD d b.length := by simp only [appR, appD, h, h2, h3, h4, if_true, if_false, Bool.false_eq_true, and_self]
theorem cut_arg (h : n < 0 ∨ ((d.n i).length : Int) < n) : cutR d i n = 2 ∧ cutD d i n = d := by simp only [cutR, cutD, h, if_true, and_self]
theorem cut_dark (h : ¬ n < 0) (h' : ¬ ((d.n i).length : Int) < n) (h1 : d.dark = true) : cutR d i n = 10 ∧ cutD d i n = d := by simp only [cutR, cutD, h, h', h1, or_self, if_true, if_false, and_self]
theorem cut_burn (h : ¬ n < 0) (h' : ¬ ((d.n i).length : Int) < n) (h1 : d.dark = false) (h2 : burnN d 1 = 0) : cutR d i n = 10 ∧ cutD d i n = burnD d 1 := by simp only [cutR, cutD, h, h', h1, h2, or_self, if_true, if_false, Bool.false_eq_true, and_self]
theorem cut_go (h : ¬ n < 0) (h' : ¬ ((d.n i).length : Int) < n) (h1 : d.dark = false) (h2 : ¬ burnN d 1 = 0) : cutR d i n = 0 ∧ cutD d i n = cutD1 (burnD d 1) i n.toNat := by simp only [cutR, cutD, h, h', h1, h2, or_self, if_true, if_false, Bool.false_eq_true, and_self]
end
section
variable (d : DiskD) (g g1 g2 g3 g4 g5 g6 g7 g8 g9 : Nat)
theorem append_c0 (b : List UInt8) (h : d.Fit) (hb : b.length ≤ 1099511627776) : ACo Try.prog 19 [.bx 0 g 0, .sc (.int .i64 0), .sl (byA b)] (diskT g g1 g2 g3 g4 g5 g6 g7 g8 g9 d)
    (fun y os' => y = .sc (.int .i64 (appR d b)) ∧ DiskAt g (appD d 0 b) os') := by
  have hbn := burnN_le (n := b.length) h (by omega)
  have hw := h.w
  have hnn := h.n 0
  have hqq := h.q
  refine ACo.of (t0 := [.bx 0 g 0, .sc (.int .i64 0), .sl (byA b), AV.sc undef, AV.sc undef, AV.sc undef, AV.sc undef, AV.sc undef, AV.sc undef, AV.sc undef, AV.sc undef, AV.sc undef, AV.sc undef, AV.sc undef, AV.sc undef, AV.sc undef, AV.sc undef, AV.sc undef, AV.sc undef, AV.sc undef, AV.sc undef, AV.sc undef, AV.sc undef, AV.sc undef, AV.sc undef, AV.sc undef, AV.sc undef, AV.sc undef, AV.sc undef, AV.sc undef, AV.sc undef, AV.sc undef, AV.sc undef, AV.sc undef, AV.sc undef, AV.sc undef, AV.sc undef, AV.sc undef, AV.sc undef, AV.sc undef, AV.sc undef, AV.sc undef, AV.sc undef, AV.sc undef, AV.sc undef, AV.sc undef, AV.sc undef, AV.sc undef, AV.sc undef, AV.sc undef, AV.sc undef, AV.sc undef, AV.sc undef, AV.sc undef, AV.sc undef, AV.sc undef, AV.sc undef, AV.sc undef, AV.sc undef, AV.sc undef, AV.sc undef, AV.sc undef, AV.sc undef, AV.sc undef, AV.sc undef, AV.sc undef, AV.sc undef, AV.sc undef, AV.sc undef, AV.sc undef, AV.sc undef]) (st0 := [⟨g, .box 99 [.sc (.int .i64 d.room), .ow 1 g1, .ow 2 g2, .ow 3 g3, .ow 4 g4, .ow 5 g5, .ow 6 g6, .ow 7 g7, .ow 8 g8, .ow 9 g9, .sc (.int .i64 d.waits), .sc (.int .i64 d.done), .sc (.bool d.fused), .sc (.int .i64 d.fuse), .sc (.bool d.dark)]⟩, ⟨g1, owM (d.nf 0) 5 1 (byA (d.n 0))⟩, ⟨g2, owM (d.nf 1) 5 1 (byA (d.n 1))⟩, ⟨g3, owM (d.nf 2) 5 1 (byA (d.n 2))⟩, ⟨g4, owM (d.nf 3) 5 1 (byA (d.n 3))⟩, ⟨g5, owM (d.lf 0) 5 1 (byA (d.l 0))⟩, ⟨g6, owM (d.lf 1) 5 1 (byA (d.l 1))⟩, ⟨g7, owM (d.lf 2) 5 1 (byA (d.l 2))⟩, ⟨g8, owM (d.lf 3) 5 1 (byA (d.l 3))⟩, ⟨g9, owM true 102 4 (d.q.map DeedD.cs)⟩, TK.mk 0 .off, TK.mk 0 .off, TK.mk 0 .off, TK.mk 0 .off, TK.mk 0 .off]) 5 Try.func19 rfl rfl rfl 10 rfl ?_
  refine AW.seq ?_
  refine AW.region ?_
  refine AL.r (rd_assign rfl rfl) ?_
  refine AL.nil ?_
  change AW _ _ _ _ _
  refine AW.seq ?_
  refine AW.seq ?_
  refine AW.region ?_
  refine AL.r (rd_move rfl rfl) ?_
  refine AL.r (rd_peq_bx rfl pt_25 rfl rfl rfl) ?_
  refine AL.nil ?_
  change AW _ _ _ _ _
  refine AW.cond_f rfl ?_
  refine AW.skip ?_
  change AW _ _ _ _ _
  refine AW.seq ?_
  refine AW.seq ?_
  refine AW.region ?_
  refine AL.r (rd_move rfl rfl) ?_
  refine AL.op rfl (AOpB.op (op_call (right_in (by decide)) rfl (by kernel_rfl) rfl (none) ?_))
  rintro r rfl
  refine AL.no ?_
  refine AL.r (rd_un rfl rfl (fun _ => rfl)) ?_
  refine AL.nil ?_
  change AW _ _ _ _ _
  refine AW.cond_f rfl ?_
  refine AW.skip ?_
  change AW _ _ _ _ _
  refine AW.seq ?_
  refine AW.seq ?_
  refine AW.region ?_
  refine AL.r (rd_move rfl rfl) ?_
  refine AL.r (rd_nilc_bx rfl rfl rfl) ?_
  refine AL.r (rd_faddr_bx rfl fo_99_8 rfl rfl ⟨_, _, rfl⟩) ?_
  refine AL.r (rd_load_bx rfl ag_4 rfl rfl rfl) ?_
  refine AL.nil ?_
  change AW _ _ _ _ _
  refine AW.cond rfl (fun h16 => ?_) (fun h16 => ?_)
  · (try simp only [decide_eq_true_eq, decide_eq_false_iff_not, beq_iff_eq, beq_eq_false_iff_ne, bne_iff_ne, bne_eq_false_iff_eq, Bool.not_eq_true', Bool.not_eq_false', ne_eq, Bool.not_eq_eq_eq_not, Bool.not_true, Bool.not_false, gt_iff_lt, ge_iff_le, Bool.not_not] at h16)
    refine AW.seq ?_
    refine AW.region ?_
    refine AL.r (rd_assign rfl rfl) ?_
    refine AL.nil ?_
    change AW _ _ _ _ _
    refine AW.ret ?_
    repeat with_reducible first | refine thenA_ret ?_ | refine inBlockA_ret ?_
    with_reducible first | refine retO_ret ?_ | refine retO_normal ?_
    refine reso1 rfl (Nat.le_of_ble_eq_true rfl) (by simp only [cleanS, cle_owM, cle_own, cle_nown, cle_obj, cle_off, cle_box, okC, liveA, List.take_succ_cons, List.take_zero, List.all_cons, List.all_nil, List.getElem?_cons_zero, List.getElem?_cons_succ, isO_owM, isO_own, isO_nown, TC.isB, beq_self_eq_true, Bool.and_self, Bool.and_true, ok1, ok2, List.map_cons, List.map_nil]) (ResV.tmp rfl) rfl (by simp only [cleanS, cle_owM, cle_own, cle_nown, cle_obj, cle_off, cle_box, okC, liveA, List.take_succ_cons, List.take_zero, List.all_cons, List.all_nil, List.getElem?_cons_zero, List.getElem?_cons_succ, isO_owM, isO_own, isO_nown, TC.isB, beq_self_eq_true, Bool.and_self, Bool.and_true, ok1, ok2, List.map_cons, List.map_nil]) ?_
    first | (have e := app_dark (b := b) (i := 0) h16; exact ⟨by first | rfl | (rw [e.1]; done) | (rw [e.1]; rfl), by rw [e.2]; exact ⟨_, _, _, _, _, _, _, _, _, by first | rfl | (simp only [diskT, pushD, cutD1, Int.toNat_natCast, List.map_append, List.map_cons, List.map_nil, DeedD.cs]; rfl)⟩⟩) | (have e := app_full (i := 0) h16 h21; exact ⟨by first | rfl | (rw [e.1]; done) | (rw [e.1]; rfl), by rw [e.2]; exact ⟨_, _, _, _, _, _, _, _, _, by first | rfl | (simp only [diskT, pushD, cutD1, Int.toNat_natCast, List.map_append, List.map_cons, List.map_nil, DeedD.cs]; rfl)⟩⟩) | (have e := app_go (i := 0) h16 h21 h27 h70; exact ⟨by first | rfl | (rw [e.1]; done) | (rw [e.1]; rfl), by rw [e.2]; exact ⟨_, _, _, _, _, _, _, _, _, by first | rfl | (simp only [diskT, pushD, cutD1, Int.toNat_natCast, List.map_append, List.map_cons, List.map_nil, DeedD.cs]; rfl)⟩⟩) | (have e := app_no (i := 0) h16 h21 h27 h70; exact ⟨by first | rfl | (rw [e.1]; done) | (rw [e.1]; rfl), by rw [e.2]; exact ⟨_, _, _, _, _, _, _, _, _, by first | rfl | (simp only [diskT, pushD, cutD1, Int.toNat_natCast, List.map_append, List.map_cons, List.map_nil, DeedD.cs]; rfl)⟩⟩)
  · (try simp only [decide_eq_true_eq, decide_eq_false_iff_not, beq_iff_eq, beq_eq_false_iff_ne, bne_iff_ne, bne_eq_false_iff_eq, Bool.not_eq_true', Bool.not_eq_false', ne_eq, Bool.not_eq_eq_eq_not, Bool.not_true, Bool.not_false, gt_iff_lt, ge_iff_le, Bool.not_not] at h16)
    refine AW.skip ?_
    change AW _ _ _ _ _
    refine AW.seq ?_
    refine AW.seq ?_
    refine AW.region ?_
    refine AL.r (rd_move rfl rfl) ?_
    refine AL.r (rd_len_sl rfl el_29 rfl) ?_
    refine AL.r (rd_move rfl rfl) ?_
    refine AL.op rfl (op_callo (left_c d g g1 g2 g3 g4 g5 g6 g7 g8 g9 h.room h.n) rfl (by kernel_rfl) [0, 1, 2, 3, 4, 5, 6, 7, 8, 9] (by decide) (by simp only [diskT, List.map_cons, List.map_nil, renT, renC_owM, renC_box, renC_own, renC_nown, renC_obj, renC_off, ren0, List.getD_cons_zero, List.getD_cons_succ]; exact ⟨rfl, rfl, rfl, rfl, rfl, rfl, rfl, rfl, rfl, rfl, trivial⟩) rfl (by simp only [diskT, cleanS, cle_owM, cle_own, cle_nown, cle_obj, cle_off, cle_box, okC, liveA, List.take_succ_cons, List.take_zero, List.all_cons, List.all_nil, List.getElem?_cons_zero, List.getElem?_cons_succ, isO_owM, isO_own, isO_nown, TC.isB, beq_self_eq_true, Bool.and_self, Bool.and_true, ok1, ok2, List.map_cons, List.map_nil]) (by simp only [diskT, cleanS, cle_owM, cle_own, cle_nown, cle_obj, cle_off, cle_box, okC, liveA, List.take_succ_cons, List.take_zero, List.all_cons, List.all_nil, List.getElem?_cons_zero, List.getElem?_cons_succ, isO_owM, isO_own, isO_nown, TC.isB, beq_self_eq_true, Bool.and_self, Bool.and_true, ok1, ok2, List.map_cons, List.map_nil]) ?_)
    rintro y os' ⟨rfl, rfl⟩
    refine AL.no ?_ (by (try simp only [diskT, putA, evA, List.getD_cons_zero, List.getD_cons_succ, List.set_cons_zero, List.set_cons_succ, List.length_map, KR, splA, List.map_cons, List.map_nil, List.length_append, List.length_cons, List.length_nil, List.drop_zero, csS_len, csS_take, csS_drop, csS_app, byA_len, byA_take, byA_drop, byA_app, ← List.map_take, ← List.map_drop, ← List.map_append, List.take_succ_cons, List.take_zero, List.drop_succ_cons, List.cons_append, List.nil_append, Nat.zero_add, Nat.reduceAdd, Nat.reduceMul, Nat.add_zero, Nat.mul_one, putT, renT, renC_owM, renC_box, renC_own, renC_nown, renC_obj, renC_off, ren2, ren1, ren0, ok1, ok2]); (try rfl)) (by (try simp only [diskT, putA, evA, List.getD_cons_zero, List.getD_cons_succ, List.set_cons_zero, List.set_cons_succ, List.length_map, KR, splA, List.map_cons, List.map_nil, List.length_append, List.length_cons, List.length_nil, List.drop_zero, csS_len, csS_take, csS_drop, csS_app, byA_len, byA_take, byA_drop, byA_app, ← List.map_take, ← List.map_drop, ← List.map_append, List.take_succ_cons, List.take_zero, List.drop_succ_cons, List.cons_append, List.nil_append, Nat.zero_add, Nat.reduceAdd, Nat.reduceMul, Nat.add_zero, Nat.mul_one, putT, renT, renC_owM, renC_box, renC_own, renC_nown, renC_obj, renC_off, ren2, ren1, ren0, ok1, ok2]); (try rfl))
    refine AL.r (rd_bin rfl rfl rfl (fun _ => rfl)) ?_
    refine AL.nil ?_
    change AW _ _ _ _ _
    refine AW.cond rfl (fun h21 => ?_) (fun h21 => ?_)
    · (try simp only [decide_eq_true_eq, decide_eq_false_iff_not, beq_iff_eq, beq_eq_false_iff_ne, bne_iff_ne, bne_eq_false_iff_eq, Bool.not_eq_true', Bool.not_eq_false', ne_eq, Bool.not_eq_eq_eq_not, Bool.not_true, Bool.not_false, gt_iff_lt, ge_iff_le, Bool.not_not] at h21)
      refine AW.seq ?_
      refine AW.region ?_
      refine AL.r (rd_assign rfl rfl) ?_
      refine AL.nil ?_
      change AW _ _ _ _ _
      refine AW.ret ?_
      repeat with_reducible first | refine thenA_ret ?_ | refine inBlockA_ret ?_
      with_reducible first | refine retO_ret ?_ | refine retO_normal ?_
      refine reso1 rfl (Nat.le_of_ble_eq_true rfl) (by simp only [cleanS, cle_owM, cle_own, cle_nown, cle_obj, cle_off, cle_box, okC, liveA, List.take_succ_cons, List.take_zero, List.all_cons, List.all_nil, List.getElem?_cons_zero, List.getElem?_cons_succ, isO_owM, isO_own, isO_nown, TC.isB, beq_self_eq_true, Bool.and_self, Bool.and_true, ok1, ok2, List.map_cons, List.map_nil]) (ResV.tmp rfl) rfl (by simp only [cleanS, cle_owM, cle_own, cle_nown, cle_obj, cle_off, cle_box, okC, liveA, List.take_succ_cons, List.take_zero, List.all_cons, List.all_nil, List.getElem?_cons_zero, List.getElem?_cons_succ, isO_owM, isO_own, isO_nown, TC.isB, beq_self_eq_true, Bool.and_self, Bool.and_true, ok1, ok2, List.map_cons, List.map_nil]) ?_
      first | (have e := app_dark (b := b) (i := 0) h16; exact ⟨by first | rfl | (rw [e.1]; done) | (rw [e.1]; rfl), by rw [e.2]; exact ⟨_, _, _, _, _, _, _, _, _, by first | rfl | (simp only [diskT, pushD, cutD1, Int.toNat_natCast, List.map_append, List.map_cons, List.map_nil, DeedD.cs]; rfl)⟩⟩) | (have e := app_full (i := 0) h16 h21; exact ⟨by first | rfl | (rw [e.1]; done) | (rw [e.1]; rfl), by rw [e.2]; exact ⟨_, _, _, _, _, _, _, _, _, by first | rfl | (simp only [diskT, pushD, cutD1, Int.toNat_natCast, List.map_append, List.map_cons, List.map_nil, DeedD.cs]; rfl)⟩⟩) | (have e := app_go (i := 0) h16 h21 h27 h70; exact ⟨by first | rfl | (rw [e.1]; done) | (rw [e.1]; rfl), by rw [e.2]; exact ⟨_, _, _, _, _, _, _, _, _, by first | rfl | (simp only [diskT, pushD, cutD1, Int.toNat_natCast, List.map_append, List.map_cons, List.map_nil, DeedD.cs]; rfl)⟩⟩) | (have e := app_no (i := 0) h16 h21 h27 h70; exact ⟨by first | rfl | (rw [e.1]; done) | (rw [e.1]; rfl), by rw [e.2]; exact ⟨_, _, _, _, _, _, _, _, _, by first | rfl | (simp only [diskT, pushD, cutD1, Int.toNat_natCast, List.map_append, List.map_cons, List.map_nil, DeedD.cs]; rfl)⟩⟩)
    · (try simp only [decide_eq_true_eq, decide_eq_false_iff_not, beq_iff_eq, beq_eq_false_iff_ne, bne_iff_ne, bne_eq_false_iff_eq, Bool.not_eq_true', Bool.not_eq_false', ne_eq, Bool.not_eq_eq_eq_not, Bool.not_true, Bool.not_false, gt_iff_lt, ge_iff_le, Bool.not_not] at h21)
      refine AW.skip ?_
      change AW _ _ _ _ _
      refine AW.seq ?_
      refine AW.region ?_
      refine AL.r (rd_move rfl rfl) ?_
      refine AL.r (rd_move rfl rfl) ?_
      refine AL.r (rd_len_sl rfl el_29 rfl) ?_
      refine AL.op rfl (op_callo (burn_c d g g1 g2 g3 g4 g5 g6 g7 g8 g9 (b.length : Int) h.fuse (by omega)) rfl (by kernel_rfl) [0, 1, 2, 3, 4, 5, 6, 7, 8, 9] (by decide) (by simp only [diskT, List.map_cons, List.map_nil, renT, renC_owM, renC_box, renC_own, renC_nown, renC_obj, renC_off, ren0, List.getD_cons_zero, List.getD_cons_succ]; exact ⟨rfl, rfl, rfl, rfl, rfl, rfl, rfl, rfl, rfl, rfl, trivial⟩) rfl (by simp only [diskT, cleanS, cle_owM, cle_own, cle_nown, cle_obj, cle_off, cle_box, okC, liveA, List.take_succ_cons, List.take_zero, List.all_cons, List.all_nil, List.getElem?_cons_zero, List.getElem?_cons_succ, isO_owM, isO_own, isO_nown, TC.isB, beq_self_eq_true, Bool.and_self, Bool.and_true, ok1, ok2, List.map_cons, List.map_nil]) (by simp only [diskT, cleanS, cle_owM, cle_own, cle_nown, cle_obj, cle_off, cle_box, okC, liveA, List.take_succ_cons, List.take_zero, List.all_cons, List.all_nil, List.getElem?_cons_zero, List.getElem?_cons_succ, isO_owM, isO_own, isO_nown, TC.isB, beq_self_eq_true, Bool.and_self, Bool.and_true, ok1, ok2, List.map_cons, List.map_nil]) ?_)
      rintro y os' ⟨rfl, rfl⟩
      refine AL.no ?_ (by (try simp only [diskT, putA, evA, List.getD_cons_zero, List.getD_cons_succ, List.set_cons_zero, List.set_cons_succ, List.length_map, KR, splA, List.map_cons, List.map_nil, List.length_append, List.length_cons, List.length_nil, List.drop_zero, csS_len, csS_take, csS_drop, csS_app, byA_len, byA_take, byA_drop, byA_app, ← List.map_take, ← List.map_drop, ← List.map_append, List.take_succ_cons, List.take_zero, List.drop_succ_cons, List.cons_append, List.nil_append, Nat.zero_add, Nat.reduceAdd, Nat.reduceMul, Nat.add_zero, Nat.mul_one, putT, renT, renC_owM, renC_box, renC_own, renC_nown, renC_obj, renC_off, ren2, ren1, ren0, ok1, ok2]); (try rfl)) (by (try simp only [diskT, putA, evA, List.getD_cons_zero, List.getD_cons_succ, List.set_cons_zero, List.set_cons_succ, List.length_map, KR, splA, List.map_cons, List.map_nil, List.length_append, List.length_cons, List.length_nil, List.drop_zero, csS_len, csS_take, csS_drop, csS_app, byA_len, byA_take, byA_drop, byA_app, ← List.map_take, ← List.map_drop, ← List.map_append, List.take_succ_cons, List.take_zero, List.drop_succ_cons, List.cons_append, List.nil_append, Nat.zero_add, Nat.reduceAdd, Nat.reduceMul, Nat.add_zero, Nat.mul_one, putT, renT, renC_owM, renC_box, renC_own, renC_nown, renC_obj, renC_off, ren2, ren1, ren0, ok1, ok2]); (try rfl))
      refine AL.r (rd_assign rfl rfl) ?_
      refine AL.nil ?_
      change AW _ _ _ _ _
      refine AW.seq ?_
      refine AW.seq ?_
      refine AW.region ?_
      refine AL.r (rd_move rfl rfl) ?_
      refine AL.r (rd_bin rfl rfl rfl (fun _ => rfl)) ?_
      refine AL.nil ?_
      change AW _ _ _ _ _
      refine AW.cond rfl (fun h27 => ?_) (fun h27 => ?_)
      · (try simp only [decide_eq_true_eq, decide_eq_false_iff_not, beq_iff_eq, beq_eq_false_iff_ne, bne_iff_ne, bne_eq_false_iff_eq, Bool.not_eq_true', Bool.not_eq_false', ne_eq, Bool.not_eq_eq_eq_not, Bool.not_true, Bool.not_false, gt_iff_lt, ge_iff_le, Bool.not_not] at h27)
        refine AW.seq ?_
        apply AW.drawS (by kernel_rfl)
        · skip
          refine ADA.r 0 rfl (ARdP.a (rdP_move rfl rfl)) rfl ?_
          refine ADA.r 1 rfl (ARdP.a (rdP_move rfl rfl)) rfl ?_
          refine ADA.r 2 rfl (ARdP.a (rdP_move rfl rfl)) rfl ?_
          refine ADA.r 3 rfl (ARdP.a (rdP_move rfl rfl)) rfl ?_
          refine ADA.r 4 rfl (ARdP.a (rdP_nilc_bx rfl rfl rfl)) rfl ?_
          refine ADA.r 5 rfl (ARdP.a (rdP_faddr_bx rfl fo_99_1 rfl rfl ⟨_, _, rfl⟩)) rfl ?_
          refine ADA.r 6 rfl (ARdP.a (rdP_iaddr_bx (i := 0) rfl ar_37 rfl rfl rfl (by first | rfl | omega) (by decide))) rfl ?_
          refine ADA.r 8 rfl (ARdP.a (rdP_move rfl rfl)) rfl ?_
          refine ADA.r 9 rfl (ARdP.a (rdP_move rfl rfl)) rfl ?_
          refine ADA.r 10 rfl (ARdP.a (rdP_slice_sl rfl el_29 rfl byA_one rfl ⟨_, _, rfl, (Int.toNat_of_nonneg (by omega)).symm⟩ (by omega) (by simp only [byA_len]; omega))) rfl ?_
          refine ADA.r 12 rfl (ARdP.a (rdP_nilc_bx rfl rfl rfl)) rfl ?_
          refine ADA.r 13 rfl (ARdP.a (rdP_faddr_bx rfl fo_99_1 rfl rfl ⟨_, _, rfl⟩)) rfl ?_
          refine ADA.b ?_
          refine ADB.move 7 rfl (by kernel_rfl) rfl (AOpB.op (ARd.opB (rd_load_bx rfl ag_29 rfl rfl rfl) ?_))
          refine ADB.n ?_
          refine ADB.move 11 rfl (by kernel_rfl) rfl (op_appendM rfl ap_29 rfl rfl (src_sl rfl (by first | exact csS_one | exact byA_one | (intro cs hcs; obtain rfl := List.mem_singleton.1 hcs; rfl) | (intro cs hcs; obtain ⟨_, _, rfl⟩ := List.mem_map.1 hcs; rfl) | simp)) (by simp only [byA_len, burnD, List.length_drop, List.length_take]; omega) (by simp only [byA_len, burnD, List.length_drop, List.length_take]; omega) ?_)
          refine ADB.n ?_
          refine ADB.r 14 rfl (rdP_iaddr_bx (i := 0) rfl ar_37 rfl rfl rfl (by first | rfl | omega) (by decide)) rfl ?_
          refine ADB.move 15 rfl (by kernel_rfl) rfl (op_store rfl rfl rfl rfl rfl (by first | exact live_owM rfl | exact live_own rfl | exact live_nown rfl | rfl) sz_29 (Nat.le_of_ble_eq_true rfl) ?_)
          refine ADB.n ?_
          refine ADB.done (by kernel_rfl) ?_
          exact ⟨rfl, rfl⟩
        skip
        change AW _ _ _ _ _
        refine AW.seq ?_
        apply AW.drawS (by kernel_rfl)
        · skip
          refine ADA.r 0 rfl (ARdP.a (rdP_move rfl rfl)) rfl ?_
          refine ADA.r 1 rfl (ARdP.a (rdP_move rfl rfl)) rfl ?_
          refine ADA.r 2 rfl (ARdP.a (rdP_nilc_bx rfl rfl rfl)) rfl ?_
          refine ADA.r 3 rfl (ARdP.a (rdP_faddr_bx rfl fo_99_3 rfl rfl ⟨_, _, rfl⟩)) rfl ?_
          refine ADA.r 5 rfl (ARdP.a (rdP_move rfl rfl)) rfl ?_
          refine ADA.r 7 rfl (ARdP.a (rdP_move rfl rfl)) rfl ?_
          refine ADA.r 8 rfl (ARdP.a (rdP_move rfl rfl)) rfl ?_
          refine ADA.r 9 rfl (ARdP.a (rdP_slice_sl rfl el_29 rfl byA_one rfl ⟨_, _, rfl, (Int.toNat_of_nonneg (by omega)).symm⟩ (by omega) (by simp only [byA_len]; omega))) rfl ?_
          refine ADA.b ?_
          refine ADB.all (is := [4, 6]) (by kernel_rfl) (by simp) ?_
          intro i hi
          simp only [List.mem_cons, List.not_mem_nil, or_false] at hi
          rcases hi with rfl | rfl
          · skip
            refine ⟨_, rfl, rfl, AOpB.op (ARd.opB (rd_load_bx rfl ag_97 rfl rfl rfl) ?_)⟩
            refine ADB.n ?_
            refine ADB.move 6 rfl (by kernel_rfl) rfl (AOpB.op (bs_own 11 rfl ap_29 ze_5 rfl rfl rfl ?_))
            refine ADB.n ?_
            refine ADB.move 10 rfl (by kernel_rfl) rfl (op_append rfl ap_29 rfl rfl (src_sl rfl (by first | exact csS_one | exact byA_one | (intro cs hcs; obtain rfl := List.mem_singleton.1 hcs; rfl) | (intro cs hcs; obtain ⟨_, _, rfl⟩ := List.mem_map.1 hcs; rfl) | simp)) (by simp [byA_len]; omega) (by simp [byA_len]; omega) ?_)
            refine ADB.n ?_
            refine ADB.settle 53 rfl rfl (by first | rfl | exact cont_owM _ _ _ _) ?_
            refine ADB.n ?_
            refine ADB.r 11 rfl (rdP_build rfl pl_102 ze_102 rfl rfl) rfl ?_
            refine ADB.move 12 rfl (by kernel_rfl) rfl (AOpB.op (bs_set rfl ap_97 ze_102 rfl rfl ?_))
            refine ADB.n ?_
            refine ADB.move 13 rfl (by kernel_rfl) rfl (op_appendM rfl ap_97 rfl rfl (src_sl rfl (by first | exact csS_one | exact byA_one | (intro cs hcs; obtain rfl := List.mem_singleton.1 hcs; rfl) | (intro cs hcs; obtain ⟨_, _, rfl⟩ := List.mem_map.1 hcs; rfl) | simp)) (by simp [burnD]; omega) (by simp [burnD]; omega) ?_)
            refine ADB.n ?_
            refine ADB.r 14 rfl (rdP_nilc_bx rfl rfl rfl) rfl ?_
            refine ADB.r 15 rfl (rdP_faddr_bx rfl fo_99_3 rfl rfl ⟨_, _, rfl⟩) rfl ?_
            refine ADB.move 16 rfl (by kernel_rfl) rfl (op_store rfl rfl rfl rfl rfl (by first | exact live_owM rfl | exact live_own rfl | exact live_nown rfl | rfl) sz_97 (Nat.le_of_ble_eq_true rfl) ?_)
            refine ADB.n ?_
            refine ADB.done (by kernel_rfl) ?_
            exact ⟨rfl, rfl⟩
          · skip
            refine ⟨_, rfl, rfl, AOpB.op (bs_own 11 rfl ap_29 ze_5 rfl rfl rfl ?_)⟩
            refine ADB.n ?_
            refine ADB.all (is := [4, 10]) (by kernel_rfl) (by simp) ?_
            intro i hi
            simp only [List.mem_cons, List.not_mem_nil, or_false] at hi
            rcases hi with rfl | rfl
            · skip
              refine ⟨_, rfl, rfl, AOpB.op (ARd.opB (rd_load_bx rfl ag_97 rfl rfl rfl) ?_)⟩
              refine ADB.n ?_
              refine ADB.move 10 rfl (by kernel_rfl) rfl (op_append rfl ap_29 rfl rfl (src_sl rfl (by first | exact csS_one | exact byA_one | (intro cs hcs; obtain rfl := List.mem_singleton.1 hcs; rfl) | (intro cs hcs; obtain ⟨_, _, rfl⟩ := List.mem_map.1 hcs; rfl) | simp)) (by simp [byA_len]; omega) (by simp [byA_len]; omega) ?_)
              refine ADB.n ?_
              refine ADB.settle 53 rfl rfl (by first | rfl | exact cont_owM _ _ _ _) ?_
              refine ADB.n ?_
              refine ADB.r 11 rfl (rdP_build rfl pl_102 ze_102 rfl rfl) rfl ?_
              refine ADB.move 12 rfl (by kernel_rfl) rfl (AOpB.op (bs_set rfl ap_97 ze_102 rfl rfl ?_))
              refine ADB.n ?_
              refine ADB.move 13 rfl (by kernel_rfl) rfl (op_appendM rfl ap_97 rfl rfl (src_sl rfl (by first | exact csS_one | exact byA_one | (intro cs hcs; obtain rfl := List.mem_singleton.1 hcs; rfl) | (intro cs hcs; obtain ⟨_, _, rfl⟩ := List.mem_map.1 hcs; rfl) | simp)) (by simp [burnD]; omega) (by simp [burnD]; omega) ?_)
              refine ADB.n ?_
              refine ADB.r 14 rfl (rdP_nilc_bx rfl rfl rfl) rfl ?_
              refine ADB.r 15 rfl (rdP_faddr_bx rfl fo_99_3 rfl rfl ⟨_, _, rfl⟩) rfl ?_
              refine ADB.move 16 rfl (by kernel_rfl) rfl (op_store rfl rfl rfl rfl rfl (by first | exact live_owM rfl | exact live_own rfl | exact live_nown rfl | rfl) sz_97 (Nat.le_of_ble_eq_true rfl) ?_)
              refine ADB.n ?_
              refine ADB.done (by kernel_rfl) ?_
              exact ⟨rfl, rfl⟩
            · skip
              refine ⟨_, rfl, rfl, op_append rfl ap_29 rfl rfl (src_sl rfl (by first | exact csS_one | exact byA_one | (intro cs hcs; obtain rfl := List.mem_singleton.1 hcs; rfl) | (intro cs hcs; obtain ⟨_, _, rfl⟩ := List.mem_map.1 hcs; rfl) | simp)) (by simp [byA_len]; omega) (by simp [byA_len]; omega) ?_⟩
              refine ADB.n ?_
              refine ADB.settle 53 rfl rfl (by first | rfl | exact cont_owM _ _ _ _) ?_
              refine ADB.n ?_
              refine ADB.r 11 rfl (rdP_build rfl pl_102 ze_102 rfl rfl) rfl ?_
              refine ADB.all (is := [4, 12]) (by kernel_rfl) (by simp) ?_
              intro i hi
              simp only [List.mem_cons, List.not_mem_nil, or_false] at hi
              rcases hi with rfl | rfl
              · skip
                refine ⟨_, rfl, rfl, AOpB.op (ARd.opB (rd_load_bx rfl ag_97 rfl rfl rfl) ?_)⟩
                refine ADB.n ?_
                refine ADB.move 12 rfl (by kernel_rfl) rfl (AOpB.op (bs_set rfl ap_97 ze_102 rfl rfl ?_))
                refine ADB.n ?_
                refine ADB.move 13 rfl (by kernel_rfl) rfl (op_appendM rfl ap_97 rfl rfl (src_sl rfl (by first | exact csS_one | exact byA_one | (intro cs hcs; obtain rfl := List.mem_singleton.1 hcs; rfl) | (intro cs hcs; obtain ⟨_, _, rfl⟩ := List.mem_map.1 hcs; rfl) | simp)) (by simp [burnD]; omega) (by simp [burnD]; omega) ?_)
                refine ADB.n ?_
                refine ADB.r 14 rfl (rdP_nilc_bx rfl rfl rfl) rfl ?_
                refine ADB.r 15 rfl (rdP_faddr_bx rfl fo_99_3 rfl rfl ⟨_, _, rfl⟩) rfl ?_
                refine ADB.move 16 rfl (by kernel_rfl) rfl (op_store rfl rfl rfl rfl rfl (by first | exact live_owM rfl | exact live_own rfl | exact live_nown rfl | rfl) sz_97 (Nat.le_of_ble_eq_true rfl) ?_)
                refine ADB.n ?_
                refine ADB.done (by kernel_rfl) ?_
                exact ⟨rfl, rfl⟩
              · skip
                refine ⟨_, rfl, rfl, AOpB.op (bs_set rfl ap_97 ze_102 rfl rfl ?_)⟩
                refine ADB.n ?_
                refine ADB.move 4 rfl (by kernel_rfl) rfl (AOpB.op (ARd.opB (rd_load_bx rfl ag_97 rfl rfl rfl) ?_))
                refine ADB.n ?_
                refine ADB.move 13 rfl (by kernel_rfl) rfl (op_appendM rfl ap_97 rfl rfl (src_sl rfl (by first | exact csS_one | exact byA_one | (intro cs hcs; obtain rfl := List.mem_singleton.1 hcs; rfl) | (intro cs hcs; obtain ⟨_, _, rfl⟩ := List.mem_map.1 hcs; rfl) | simp)) (by simp [burnD]; omega) (by simp [burnD]; omega) ?_)
                refine ADB.n ?_
                refine ADB.r 14 rfl (rdP_nilc_bx rfl rfl rfl) rfl ?_
                refine ADB.r 15 rfl (rdP_faddr_bx rfl fo_99_3 rfl rfl ⟨_, _, rfl⟩) rfl ?_
                refine ADB.move 16 rfl (by kernel_rfl) rfl (op_store rfl rfl rfl rfl rfl (by first | exact live_owM rfl | exact live_own rfl | exact live_nown rfl | rfl) sz_97 (Nat.le_of_ble_eq_true rfl) ?_)
                refine ADB.n ?_
                refine ADB.done (by kernel_rfl) ?_
                exact ⟨rfl, rfl⟩
        skip
        change AW _ _ _ _ _
        refine AW.region ?_
        refine AL.r (rd_move rfl rfl) ?_
        refine AL.r (rd_nilc_bx rfl rfl rfl) ?_
        refine AL.r (rd_faddr_bx rfl fo_99_4 rfl rfl ⟨_, _, rfl⟩) ?_
        refine AL.r (rd_load_bx rfl ag_3 rfl rfl rfl) ?_
        refine AL.r (rd_move rfl rfl) ?_
        refine AL.r (rd_arith_add rfl rfl rfl (IntWalk.i64_in _ (by simp only [burnD]; omega))) ?_
        refine AL.r (rd_nilc_bx rfl rfl rfl) ?_
        refine AL.r (rd_faddr_bx rfl fo_99_4 rfl rfl ⟨_, _, rfl⟩) ?_
        refine AL.op rfl (op_store rfl rfl rfl rfl rfl rfl sz_3 (Nat.le_of_ble_eq_true rfl) ?_)
        refine AL.no ?_
        refine AL.nil ?_
        change AW _ _ _ _ _
        refine AW.seq ?_
        refine AW.seq ?_
        refine AW.region ?_
        refine AL.r (rd_move rfl rfl) ?_
        refine AL.r (rd_nilc_bx rfl rfl rfl) ?_
        refine AL.r (rd_faddr_bx rfl fo_99_8 rfl rfl ⟨_, _, rfl⟩) ?_
        refine AL.r (rd_load_bx rfl ag_4 rfl rfl rfl) ?_
        refine AL.nil ?_
        change AW _ _ _ _ _
        refine AW.cond rfl (fun h70 => ?_) (fun h70 => ?_)
        · (try simp only [decide_eq_true_eq, decide_eq_false_iff_not, beq_iff_eq, beq_eq_false_iff_ne, bne_iff_ne, bne_eq_false_iff_eq, Bool.not_eq_true', Bool.not_eq_false', ne_eq, Bool.not_eq_eq_eq_not, Bool.not_true, Bool.not_false, gt_iff_lt, ge_iff_le, Bool.not_not] at h70)
          refine AW.seq ?_
          refine AW.region ?_
          refine AL.r (rd_assign rfl rfl) ?_
          refine AL.nil ?_
          change AW _ _ _ _ _
          refine AW.ret ?_
          repeat with_reducible first | refine thenA_ret ?_ | refine inBlockA_ret ?_
          with_reducible first | refine retO_ret ?_ | refine retO_normal ?_
          refine reso1 rfl (Nat.le_of_ble_eq_true rfl) (by simp only [cleanS, cle_owM, cle_own, cle_nown, cle_obj, cle_off, cle_box, okC, liveA, List.take_succ_cons, List.take_zero, List.all_cons, List.all_nil, List.getElem?_cons_zero, List.getElem?_cons_succ, isO_owM, isO_own, isO_nown, TC.isB, beq_self_eq_true, Bool.and_self, Bool.and_true, ok1, ok2, List.map_cons, List.map_nil]) (ResV.tmp rfl) rfl (by simp only [cleanS, cle_owM, cle_own, cle_nown, cle_obj, cle_off, cle_box, okC, liveA, List.take_succ_cons, List.take_zero, List.all_cons, List.all_nil, List.getElem?_cons_zero, List.getElem?_cons_succ, isO_owM, isO_own, isO_nown, TC.isB, beq_self_eq_true, Bool.and_self, Bool.and_true, ok1, ok2, List.map_cons, List.map_nil]) ?_
          first | (have e := app_dark (b := b) (i := 0) h16; exact ⟨by first | rfl | (rw [e.1]; done) | (rw [e.1]; rfl), by rw [e.2]; exact ⟨_, _, _, _, _, _, _, _, _, by first | rfl | (simp only [diskT, pushD, cutD1, Int.toNat_natCast, List.map_append, List.map_cons, List.map_nil, DeedD.cs]; rfl)⟩⟩) | (have e := app_full (i := 0) h16 h21; exact ⟨by first | rfl | (rw [e.1]; done) | (rw [e.1]; rfl), by rw [e.2]; exact ⟨_, _, _, _, _, _, _, _, _, by first | rfl | (simp only [diskT, pushD, cutD1, Int.toNat_natCast, List.map_append, List.map_cons, List.map_nil, DeedD.cs]; rfl)⟩⟩) | (have e := app_go (i := 0) h16 h21 h27 h70; exact ⟨by first | rfl | (rw [e.1]; done) | (rw [e.1]; rfl), by rw [e.2]; exact ⟨_, _, _, _, _, _, _, _, _, by first | rfl | (simp only [diskT, pushD, cutD1, Int.toNat_natCast, List.map_append, List.map_cons, List.map_nil, DeedD.cs]; rfl)⟩⟩) | (have e := app_no (i := 0) h16 h21 h27 h70; exact ⟨by first | rfl | (rw [e.1]; done) | (rw [e.1]; rfl), by rw [e.2]; exact ⟨_, _, _, _, _, _, _, _, _, by first | rfl | (simp only [diskT, pushD, cutD1, Int.toNat_natCast, List.map_append, List.map_cons, List.map_nil, DeedD.cs]; rfl)⟩⟩)
        · (try simp only [decide_eq_true_eq, decide_eq_false_iff_not, beq_iff_eq, beq_eq_false_iff_ne, bne_iff_ne, bne_eq_false_iff_eq, Bool.not_eq_true', Bool.not_eq_false', ne_eq, Bool.not_eq_eq_eq_not, Bool.not_true, Bool.not_false, gt_iff_lt, ge_iff_le, Bool.not_not] at h70)
          refine AW.skip ?_
          change AW _ _ _ _ _
          refine AW.seq ?_
          refine AW.region ?_
          refine AL.r (rd_assign rfl rfl) ?_
          refine AL.nil ?_
          change AW _ _ _ _ _
          refine AW.ret ?_
          repeat with_reducible first | refine thenA_ret ?_ | refine inBlockA_ret ?_
          with_reducible first | refine retO_ret ?_ | refine retO_normal ?_
          refine reso1 rfl (Nat.le_of_ble_eq_true rfl) (by simp only [cleanS, cle_owM, cle_own, cle_nown, cle_obj, cle_off, cle_box, okC, liveA, List.take_succ_cons, List.take_zero, List.all_cons, List.all_nil, List.getElem?_cons_zero, List.getElem?_cons_succ, isO_owM, isO_own, isO_nown, TC.isB, beq_self_eq_true, Bool.and_self, Bool.and_true, ok1, ok2, List.map_cons, List.map_nil]) (ResV.tmp rfl) rfl (by simp only [cleanS, cle_owM, cle_own, cle_nown, cle_obj, cle_off, cle_box, okC, liveA, List.take_succ_cons, List.take_zero, List.all_cons, List.all_nil, List.getElem?_cons_zero, List.getElem?_cons_succ, isO_owM, isO_own, isO_nown, TC.isB, beq_self_eq_true, Bool.and_self, Bool.and_true, ok1, ok2, List.map_cons, List.map_nil]) ?_
          first | (have e := app_dark (b := b) (i := 0) h16; exact ⟨by first | rfl | (rw [e.1]; done) | (rw [e.1]; rfl), by rw [e.2]; exact ⟨_, _, _, _, _, _, _, _, _, by first | rfl | (simp only [diskT, pushD, cutD1, Int.toNat_natCast, List.map_append, List.map_cons, List.map_nil, DeedD.cs]; rfl)⟩⟩) | (have e := app_full (i := 0) h16 h21; exact ⟨by first | rfl | (rw [e.1]; done) | (rw [e.1]; rfl), by rw [e.2]; exact ⟨_, _, _, _, _, _, _, _, _, by first | rfl | (simp only [diskT, pushD, cutD1, Int.toNat_natCast, List.map_append, List.map_cons, List.map_nil, DeedD.cs]; rfl)⟩⟩) | (have e := app_go (i := 0) h16 h21 h27 h70; exact ⟨by first | rfl | (rw [e.1]; done) | (rw [e.1]; rfl), by rw [e.2]; exact ⟨_, _, _, _, _, _, _, _, _, by first | rfl | (simp only [diskT, pushD, cutD1, Int.toNat_natCast, List.map_append, List.map_cons, List.map_nil, DeedD.cs]; rfl)⟩⟩) | (have e := app_no (i := 0) h16 h21 h27 h70; exact ⟨by first | rfl | (rw [e.1]; done) | (rw [e.1]; rfl), by rw [e.2]; exact ⟨_, _, _, _, _, _, _, _, _, by first | rfl | (simp only [diskT, pushD, cutD1, Int.toNat_natCast, List.map_append, List.map_cons, List.map_nil, DeedD.cs]; rfl)⟩⟩)
      · (try simp only [decide_eq_true_eq, decide_eq_false_iff_not, beq_iff_eq, beq_eq_false_iff_ne, bne_iff_ne, bne_eq_false_iff_eq, Bool.not_eq_true', Bool.not_eq_false', ne_eq, Bool.not_eq_eq_eq_not, Bool.not_true, Bool.not_false, gt_iff_lt, ge_iff_le, Bool.not_not] at h27)
        refine AW.skip ?_
        change AW _ _ _ _ _
        refine AW.seq ?_
        refine AW.seq ?_
        refine AW.region ?_
        refine AL.r (rd_move rfl rfl) ?_
        refine AL.r (rd_nilc_bx rfl rfl rfl) ?_
        refine AL.r (rd_faddr_bx rfl fo_99_8 rfl rfl ⟨_, _, rfl⟩) ?_
        refine AL.r (rd_load_bx rfl ag_4 rfl rfl rfl) ?_
        refine AL.nil ?_
        change AW _ _ _ _ _
        refine AW.cond rfl (fun h70 => ?_) (fun h70 => ?_)
        · (try simp only [decide_eq_true_eq, decide_eq_false_iff_not, beq_iff_eq, beq_eq_false_iff_ne, bne_iff_ne, bne_eq_false_iff_eq, Bool.not_eq_true', Bool.not_eq_false', ne_eq, Bool.not_eq_eq_eq_not, Bool.not_true, Bool.not_false, gt_iff_lt, ge_iff_le, Bool.not_not] at h70)
          refine AW.seq ?_
          refine AW.region ?_
          refine AL.r (rd_assign rfl rfl) ?_
          refine AL.nil ?_
          change AW _ _ _ _ _
          refine AW.ret ?_
          repeat with_reducible first | refine thenA_ret ?_ | refine inBlockA_ret ?_
          with_reducible first | refine retO_ret ?_ | refine retO_normal ?_
          refine reso1 rfl (Nat.le_of_ble_eq_true rfl) (by simp only [cleanS, cle_owM, cle_own, cle_nown, cle_obj, cle_off, cle_box, okC, liveA, List.take_succ_cons, List.take_zero, List.all_cons, List.all_nil, List.getElem?_cons_zero, List.getElem?_cons_succ, isO_owM, isO_own, isO_nown, TC.isB, beq_self_eq_true, Bool.and_self, Bool.and_true, ok1, ok2, List.map_cons, List.map_nil]) (ResV.tmp rfl) rfl (by simp only [cleanS, cle_owM, cle_own, cle_nown, cle_obj, cle_off, cle_box, okC, liveA, List.take_succ_cons, List.take_zero, List.all_cons, List.all_nil, List.getElem?_cons_zero, List.getElem?_cons_succ, isO_owM, isO_own, isO_nown, TC.isB, beq_self_eq_true, Bool.and_self, Bool.and_true, ok1, ok2, List.map_cons, List.map_nil]) ?_
          first | (have e := app_dark (b := b) (i := 0) h16; exact ⟨by first | rfl | (rw [e.1]; done) | (rw [e.1]; rfl), by rw [e.2]; exact ⟨_, _, _, _, _, _, _, _, _, by first | rfl | (simp only [diskT, pushD, cutD1, Int.toNat_natCast, List.map_append, List.map_cons, List.map_nil, DeedD.cs]; rfl)⟩⟩) | (have e := app_full (i := 0) h16 h21; exact ⟨by first | rfl | (rw [e.1]; done) | (rw [e.1]; rfl), by rw [e.2]; exact ⟨_, _, _, _, _, _, _, _, _, by first | rfl | (simp only [diskT, pushD, cutD1, Int.toNat_natCast, List.map_append, List.map_cons, List.map_nil, DeedD.cs]; rfl)⟩⟩) | (have e := app_go (i := 0) h16 h21 h27 h70; exact ⟨by first | rfl | (rw [e.1]; done) | (rw [e.1]; rfl), by rw [e.2]; exact ⟨_, _, _, _, _, _, _, _, _, by first | rfl | (simp only [diskT, pushD, cutD1, Int.toNat_natCast, List.map_append, List.map_cons, List.map_nil, DeedD.cs]; rfl)⟩⟩) | (have e := app_no (i := 0) h16 h21 h27 h70; exact ⟨by first | rfl | (rw [e.1]; done) | (rw [e.1]; rfl), by rw [e.2]; exact ⟨_, _, _, _, _, _, _, _, _, by first | rfl | (simp only [diskT, pushD, cutD1, Int.toNat_natCast, List.map_append, List.map_cons, List.map_nil, DeedD.cs]; rfl)⟩⟩)
        · (try simp only [decide_eq_true_eq, decide_eq_false_iff_not, beq_iff_eq, beq_eq_false_iff_ne, bne_iff_ne, bne_eq_false_iff_eq, Bool.not_eq_true', Bool.not_eq_false', ne_eq, Bool.not_eq_eq_eq_not, Bool.not_true, Bool.not_false, gt_iff_lt, ge_iff_le, Bool.not_not] at h70)
          refine AW.skip ?_
          change AW _ _ _ _ _
          refine AW.seq ?_
          refine AW.region ?_
          refine AL.r (rd_assign rfl rfl) ?_
          refine AL.nil ?_
          change AW _ _ _ _ _
          refine AW.ret ?_
          repeat with_reducible first | refine thenA_ret ?_ | refine inBlockA_ret ?_
          with_reducible first | refine retO_ret ?_ | refine retO_normal ?_
          refine reso1 rfl (Nat.le_of_ble_eq_true rfl) (by simp only [cleanS, cle_owM, cle_own, cle_nown, cle_obj, cle_off, cle_box, okC, liveA, List.take_succ_cons, List.take_zero, List.all_cons, List.all_nil, List.getElem?_cons_zero, List.getElem?_cons_succ, isO_owM, isO_own, isO_nown, TC.isB, beq_self_eq_true, Bool.and_self, Bool.and_true, ok1, ok2, List.map_cons, List.map_nil]) (ResV.tmp rfl) rfl (by simp only [cleanS, cle_owM, cle_own, cle_nown, cle_obj, cle_off, cle_box, okC, liveA, List.take_succ_cons, List.take_zero, List.all_cons, List.all_nil, List.getElem?_cons_zero, List.getElem?_cons_succ, isO_owM, isO_own, isO_nown, TC.isB, beq_self_eq_true, Bool.and_self, Bool.and_true, ok1, ok2, List.map_cons, List.map_nil]) ?_
          first | (have e := app_dark (b := b) (i := 0) h16; exact ⟨by first | rfl | (rw [e.1]; done) | (rw [e.1]; rfl), by rw [e.2]; exact ⟨_, _, _, _, _, _, _, _, _, by first | rfl | (simp only [diskT, pushD, cutD1, Int.toNat_natCast, List.map_append, List.map_cons, List.map_nil, DeedD.cs]; rfl)⟩⟩) | (have e := app_full (i := 0) h16 h21; exact ⟨by first | rfl | (rw [e.1]; done) | (rw [e.1]; rfl), by rw [e.2]; exact ⟨_, _, _, _, _, _, _, _, _, by first | rfl | (simp only [diskT, pushD, cutD1, Int.toNat_natCast, List.map_append, List.map_cons, List.map_nil, DeedD.cs]; rfl)⟩⟩) | (have e := app_go (i := 0) h16 h21 h27 h70; exact ⟨by first | rfl | (rw [e.1]; done) | (rw [e.1]; rfl), by rw [e.2]; exact ⟨_, _, _, _, _, _, _, _, _, by first | rfl | (simp only [diskT, pushD, cutD1, Int.toNat_natCast, List.map_append, List.map_cons, List.map_nil, DeedD.cs]; rfl)⟩⟩) | (have e := app_no (i := 0) h16 h21 h27 h70; exact ⟨by first | rfl | (rw [e.1]; done) | (rw [e.1]; rfl), by rw [e.2]; exact ⟨_, _, _, _, _, _, _, _, _, by first | rfl | (simp only [diskT, pushD, cutD1, Int.toNat_natCast, List.map_append, List.map_cons, List.map_nil, DeedD.cs]; rfl)⟩⟩)
theorem cut_c0 (n : Int) (h : d.Fit) : ACo Try.prog 26 [.bx 0 g 0, .sc (.int .i64 0), .sc (.int .i64 n)] (diskT g g1 g2 g3 g4 g5 g6 g7 g8 g9 d)
    (fun y os' => y = .sc (.int .i64 (cutR d 0 n)) ∧ DiskAt g (cutD d 0 n) os') := by
  have hbn := burnN_le (n := 1) h (by omega)
  have hw := h.w
  have hnn := h.n 0
  have hqq := h.q
  refine ACo.of (t0 := [.bx 0 g 0, .sc (.int .i64 0), .sc (.int .i64 n), AV.sc undef, AV.sc undef, AV.sc undef, AV.sc undef, AV.sc undef, AV.sc undef, AV.sc undef, AV.sc undef, AV.sc undef, AV.sc undef, AV.sc undef, AV.sc undef, AV.sc undef, AV.sc undef, AV.sc undef, AV.sc undef, AV.sc undef, AV.sc undef, AV.sc undef, AV.sc undef, AV.sc undef, AV.sc undef, AV.sc undef, AV.sc undef, AV.sc undef, AV.sc undef, AV.sc undef, AV.sc undef, AV.sc undef, AV.sc undef, AV.sc undef, AV.sc undef, AV.sc undef, AV.sc undef, AV.sc undef, AV.sc undef, AV.sc undef, AV.sc undef, AV.sc undef, AV.sc undef, AV.sc undef, AV.sc undef, AV.sc undef, AV.sc undef, AV.sc undef, AV.sc undef, AV.sc undef, AV.sc undef, AV.sc undef, AV.sc undef, AV.sc undef, AV.sc undef, AV.sc undef, AV.sc undef, AV.sc undef, AV.sc undef, AV.sc undef, AV.sc undef, AV.sc undef, AV.sc undef, AV.sc undef, AV.sc undef, AV.sc undef, AV.sc undef, AV.sc undef]) (st0 := [⟨g, .box 99 [.sc (.int .i64 d.room), .ow 1 g1, .ow 2 g2, .ow 3 g3, .ow 4 g4, .ow 5 g5, .ow 6 g6, .ow 7 g7, .ow 8 g8, .ow 9 g9, .sc (.int .i64 d.waits), .sc (.int .i64 d.done), .sc (.bool d.fused), .sc (.int .i64 d.fuse), .sc (.bool d.dark)]⟩, ⟨g1, owM (d.nf 0) 5 1 (byA (d.n 0))⟩, ⟨g2, owM (d.nf 1) 5 1 (byA (d.n 1))⟩, ⟨g3, owM (d.nf 2) 5 1 (byA (d.n 2))⟩, ⟨g4, owM (d.nf 3) 5 1 (byA (d.n 3))⟩, ⟨g5, owM (d.lf 0) 5 1 (byA (d.l 0))⟩, ⟨g6, owM (d.lf 1) 5 1 (byA (d.l 1))⟩, ⟨g7, owM (d.lf 2) 5 1 (byA (d.l 2))⟩, ⟨g8, owM (d.lf 3) 5 1 (byA (d.l 3))⟩, ⟨g9, owM true 102 4 (d.q.map DeedD.cs)⟩, TK.mk 0 .off, TK.mk 0 .off]) 2 Try.func26 rfl rfl rfl 10 rfl ?_
  refine AW.seq ?_
  refine AW.region ?_
  refine AL.r (rd_assign rfl rfl) ?_
  refine AL.nil ?_
  change AW _ _ _ _ _
  refine AW.seq ?_
  refine AW.seq ?_
  refine AW.region ?_
  refine AL.r (rd_move rfl rfl) ?_
  refine AL.r (rd_peq_bx rfl pt_25 rfl rfl rfl) ?_
  refine AL.nil ?_
  change AW _ _ _ _ _
  refine AW.cond_f rfl ?_
  refine AW.skip ?_
  change AW _ _ _ _ _
  refine AW.seq ?_
  refine AW.seq ?_
  refine AW.region ?_
  refine AL.r (rd_move rfl rfl) ?_
  refine AL.op rfl (AOpB.op (op_call (right_in (by decide)) rfl (by kernel_rfl) rfl (none) ?_))
  rintro r rfl
  refine AL.no ?_
  refine AL.r (rd_un rfl rfl (fun _ => rfl)) ?_
  refine AL.r (rd_move rfl rfl) ?_
  refine AL.ro (rd_move rfl rfl) ?_
  refine AL.ro (rd_bin rfl rfl rfl (fun _ => rfl)) ?_
  refine AL.r (rd_pick_f rfl rfl rfl) ?_
  refine AL.r (rd_move rfl rfl) ?_
  refine AL.fork (d := 16) rfl (fun h16 => ?_) (fun h16 => ?_)
  · (try simp only [decide_eq_true_eq, decide_eq_false_iff_not, beq_iff_eq, beq_eq_false_iff_ne, bne_iff_ne, bne_eq_false_iff_eq, Bool.not_eq_true', Bool.not_eq_false', ne_eq, Bool.not_eq_eq_eq_not, Bool.not_true, Bool.not_false, gt_iff_lt, ge_iff_le, Bool.not_not] at h16)
    refine AL.n ?_
    refine AL.rf ?_
    refine AL.rf ?_
    refine AL.rf ?_
    refine AL.rf ?_
    refine AL.rf ?_
    refine AL.rf ?_
    refine AL.rf ?_
    refine AL.rf ?_
    refine AL.rf ?_
    refine AL.r (rd_pick_t rfl rfl rfl) ?_
    refine AL.nil ?_
    change AW _ _ _ _ _
    refine AW.cond_t rfl ?_
    refine AW.seq ?_
    refine AW.region ?_
    refine AL.r (rd_assign rfl rfl) ?_
    refine AL.nil ?_
    change AW _ _ _ _ _
    refine AW.ret ?_
    repeat with_reducible first | refine thenA_ret ?_ | refine inBlockA_ret ?_
    with_reducible first | refine retO_ret ?_ | refine retO_normal ?_
    refine reso1 rfl (Nat.le_of_ble_eq_true rfl) (by simp only [cleanS, cle_owM, cle_own, cle_nown, cle_obj, cle_off, cle_box, okC, liveA, List.take_succ_cons, List.take_zero, List.all_cons, List.all_nil, List.getElem?_cons_zero, List.getElem?_cons_succ, isO_owM, isO_own, isO_nown, TC.isB, beq_self_eq_true, Bool.and_self, Bool.and_true, ok1, ok2, List.map_cons, List.map_nil]) (ResV.tmp rfl) rfl (by simp only [cleanS, cle_owM, cle_own, cle_nown, cle_obj, cle_off, cle_box, okC, liveA, List.take_succ_cons, List.take_zero, List.all_cons, List.all_nil, List.getElem?_cons_zero, List.getElem?_cons_succ, isO_owM, isO_own, isO_nown, TC.isB, beq_self_eq_true, Bool.and_self, Bool.and_true, ok1, ok2, List.map_cons, List.map_nil]) ?_
    first | (have e := cut_arg (d := d) (i := 0) (.inl h16); exact ⟨by first | rfl | (rw [e.1]; done) | (rw [e.1]; rfl), by rw [e.2]; exact ⟨_, _, _, _, _, _, _, _, _, by first | rfl | (simp only [diskT, pushD, cutD1, Int.toNat_natCast, List.map_append, List.map_cons, List.map_nil, DeedD.cs]; rfl)⟩⟩) | (have e := cut_arg (d := d) (i := 0) (.inr h26); exact ⟨by first | rfl | (rw [e.1]; done) | (rw [e.1]; rfl), by rw [e.2]; exact ⟨_, _, _, _, _, _, _, _, _, by first | rfl | (simp only [diskT, pushD, cutD1, Int.toNat_natCast, List.map_append, List.map_cons, List.map_nil, DeedD.cs]; rfl)⟩⟩) | (have e := cut_dark (d := d) (i := 0) h16 h26 h31; exact ⟨by first | rfl | (rw [e.1]; done) | (rw [e.1]; rfl), by rw [e.2]; exact ⟨_, _, _, _, _, _, _, _, _, by first | rfl | (simp only [diskT, pushD, cutD1, Int.toNat_natCast, List.map_append, List.map_cons, List.map_nil, DeedD.cs]; rfl)⟩⟩) | (have e := cut_burn (d := d) (i := 0) h16 h26 h31 h35; exact ⟨by first | rfl | (rw [e.1]; done) | (rw [e.1]; rfl), by rw [e.2]; exact ⟨_, _, _, _, _, _, _, _, _, by first | rfl | (simp only [diskT, pushD, cutD1, Int.toNat_natCast, List.map_append, List.map_cons, List.map_nil, DeedD.cs]; rfl)⟩⟩) | (have e := cut_go (d := d) (i := 0) h16 h26 h31 h35; exact ⟨by first | rfl | (rw [e.1]; done) | (rw [e.1]; rfl), by rw [e.2]; exact ⟨_, _, _, _, _, _, _, _, _, by first | rfl | (simp only [diskT, pushD, cutD1, Int.toNat_natCast, List.map_append, List.map_cons, List.map_nil, DeedD.cs]; rfl)⟩⟩)
  · (try simp only [decide_eq_true_eq, decide_eq_false_iff_not, beq_iff_eq, beq_eq_false_iff_ne, bne_iff_ne, bne_eq_false_iff_eq, Bool.not_eq_true', Bool.not_eq_false', ne_eq, Bool.not_eq_eq_eq_not, Bool.not_true, Bool.not_false, gt_iff_lt, ge_iff_le, Bool.not_not] at h16)
    refine AL.n ?_
    refine AL.ro (rd_move rfl rfl) ?_
    refine AL.ro (rd_move rfl rfl) ?_
    refine AL.ro (rd_move rfl rfl) ?_
    refine AL.ro (rd_nilc_bx rfl rfl rfl) ?_
    refine AL.ro (rd_faddr_bx rfl fo_99_1 rfl rfl ⟨_, _, rfl⟩) ?_
    refine AL.ro (rd_iaddr_bx (i := 0) rfl ar_37 rfl rfl rfl (by first | rfl | omega) (by decide)) ?_
    refine AL.ro (rd_load_bx rfl ag_29 rfl rfl rfl) ?_
    refine AL.ro (rd_len_owM rfl el_29 rfl rfl) ?_
    refine AL.ro (rd_bin rfl rfl rfl (fun _ => rfl)) ?_
    refine AL.r (rd_pick_f rfl rfl rfl) ?_
    refine AL.nil ?_
    change AW _ _ _ _ _
    refine AW.cond rfl (fun h26 => ?_) (fun h26 => ?_)
    · (try simp only [decide_eq_true_eq, decide_eq_false_iff_not, beq_iff_eq, beq_eq_false_iff_ne, bne_iff_ne, bne_eq_false_iff_eq, Bool.not_eq_true', Bool.not_eq_false', ne_eq, Bool.not_eq_eq_eq_not, Bool.not_true, Bool.not_false, gt_iff_lt, ge_iff_le, Bool.not_not] at h26)
      refine AW.seq ?_
      refine AW.region ?_
      refine AL.r (rd_assign rfl rfl) ?_
      refine AL.nil ?_
      change AW _ _ _ _ _
      refine AW.ret ?_
      repeat with_reducible first | refine thenA_ret ?_ | refine inBlockA_ret ?_
      with_reducible first | refine retO_ret ?_ | refine retO_normal ?_
      refine reso1 rfl (Nat.le_of_ble_eq_true rfl) (by simp only [cleanS, cle_owM, cle_own, cle_nown, cle_obj, cle_off, cle_box, okC, liveA, List.take_succ_cons, List.take_zero, List.all_cons, List.all_nil, List.getElem?_cons_zero, List.getElem?_cons_succ, isO_owM, isO_own, isO_nown, TC.isB, beq_self_eq_true, Bool.and_self, Bool.and_true, ok1, ok2, List.map_cons, List.map_nil]) (ResV.tmp rfl) rfl (by simp only [cleanS, cle_owM, cle_own, cle_nown, cle_obj, cle_off, cle_box, okC, liveA, List.take_succ_cons, List.take_zero, List.all_cons, List.all_nil, List.getElem?_cons_zero, List.getElem?_cons_succ, isO_owM, isO_own, isO_nown, TC.isB, beq_self_eq_true, Bool.and_self, Bool.and_true, ok1, ok2, List.map_cons, List.map_nil]) ?_
      first | (have e := cut_arg (d := d) (i := 0) (.inl h16); exact ⟨by first | rfl | (rw [e.1]; done) | (rw [e.1]; rfl), by rw [e.2]; exact ⟨_, _, _, _, _, _, _, _, _, by first | rfl | (simp only [diskT, pushD, cutD1, Int.toNat_natCast, List.map_append, List.map_cons, List.map_nil, DeedD.cs]; rfl)⟩⟩) | (have e := cut_arg (d := d) (i := 0) (.inr h26); exact ⟨by first | rfl | (rw [e.1]; done) | (rw [e.1]; rfl), by rw [e.2]; exact ⟨_, _, _, _, _, _, _, _, _, by first | rfl | (simp only [diskT, pushD, cutD1, Int.toNat_natCast, List.map_append, List.map_cons, List.map_nil, DeedD.cs]; rfl)⟩⟩) | (have e := cut_dark (d := d) (i := 0) h16 h26 h31; exact ⟨by first | rfl | (rw [e.1]; done) | (rw [e.1]; rfl), by rw [e.2]; exact ⟨_, _, _, _, _, _, _, _, _, by first | rfl | (simp only [diskT, pushD, cutD1, Int.toNat_natCast, List.map_append, List.map_cons, List.map_nil, DeedD.cs]; rfl)⟩⟩) | (have e := cut_burn (d := d) (i := 0) h16 h26 h31 h35; exact ⟨by first | rfl | (rw [e.1]; done) | (rw [e.1]; rfl), by rw [e.2]; exact ⟨_, _, _, _, _, _, _, _, _, by first | rfl | (simp only [diskT, pushD, cutD1, Int.toNat_natCast, List.map_append, List.map_cons, List.map_nil, DeedD.cs]; rfl)⟩⟩) | (have e := cut_go (d := d) (i := 0) h16 h26 h31 h35; exact ⟨by first | rfl | (rw [e.1]; done) | (rw [e.1]; rfl), by rw [e.2]; exact ⟨_, _, _, _, _, _, _, _, _, by first | rfl | (simp only [diskT, pushD, cutD1, Int.toNat_natCast, List.map_append, List.map_cons, List.map_nil, DeedD.cs]; rfl)⟩⟩)
    · (try simp only [decide_eq_true_eq, decide_eq_false_iff_not, beq_iff_eq, beq_eq_false_iff_ne, bne_iff_ne, bne_eq_false_iff_eq, Bool.not_eq_true', Bool.not_eq_false', ne_eq, Bool.not_eq_eq_eq_not, Bool.not_true, Bool.not_false, gt_iff_lt, ge_iff_le, Bool.not_not] at h26)
      refine AW.skip ?_
      change AW _ _ _ _ _
      refine AW.seq ?_
      refine AW.seq ?_
      refine AW.region ?_
      obtain ⟨m, rfl⟩ : ∃ m : Nat, n = (m : Int) := ⟨n.toNat, (by omega)⟩
      refine AL.r (rd_move rfl rfl) ?_
      refine AL.r (rd_nilc_bx rfl rfl rfl) ?_
      refine AL.r (rd_faddr_bx rfl fo_99_8 rfl rfl ⟨_, _, rfl⟩) ?_
      refine AL.r (rd_load_bx rfl ag_4 rfl rfl rfl) ?_
      refine AL.r (rd_move rfl rfl) ?_
      refine AL.fork (d := 31) rfl (fun h31 => ?_) (fun h31 => ?_)
      · (try simp only [decide_eq_true_eq, decide_eq_false_iff_not, beq_iff_eq, beq_eq_false_iff_ne, bne_iff_ne, bne_eq_false_iff_eq, Bool.not_eq_true', Bool.not_eq_false', ne_eq, Bool.not_eq_eq_eq_not, Bool.not_true, Bool.not_false, gt_iff_lt, ge_iff_le, Bool.not_not] at h31)
        refine AL.n ?_
        refine AL.rf ?_
        refine AL.rf ?_
        refine AL.rf ?_
        refine AL.r (rd_pick_t rfl rfl rfl) ?_
        refine AL.nil ?_
        change AW _ _ _ _ _
        refine AW.cond_t rfl ?_
        refine AW.seq ?_
        refine AW.region ?_
        refine AL.r (rd_assign rfl rfl) ?_
        refine AL.nil ?_
        change AW _ _ _ _ _
        refine AW.ret ?_
        repeat with_reducible first | refine thenA_ret ?_ | refine inBlockA_ret ?_
        with_reducible first | refine retO_ret ?_ | refine retO_normal ?_
        refine reso1 rfl (Nat.le_of_ble_eq_true rfl) (by simp only [cleanS, cle_owM, cle_own, cle_nown, cle_obj, cle_off, cle_box, okC, liveA, List.take_succ_cons, List.take_zero, List.all_cons, List.all_nil, List.getElem?_cons_zero, List.getElem?_cons_succ, isO_owM, isO_own, isO_nown, TC.isB, beq_self_eq_true, Bool.and_self, Bool.and_true, ok1, ok2, List.map_cons, List.map_nil]) (ResV.tmp rfl) rfl (by simp only [cleanS, cle_owM, cle_own, cle_nown, cle_obj, cle_off, cle_box, okC, liveA, List.take_succ_cons, List.take_zero, List.all_cons, List.all_nil, List.getElem?_cons_zero, List.getElem?_cons_succ, isO_owM, isO_own, isO_nown, TC.isB, beq_self_eq_true, Bool.and_self, Bool.and_true, ok1, ok2, List.map_cons, List.map_nil]) ?_
        first | (have e := cut_arg (d := d) (i := 0) (.inl h16); exact ⟨by first | rfl | (rw [e.1]; done) | (rw [e.1]; rfl), by rw [e.2]; exact ⟨_, _, _, _, _, _, _, _, _, by first | rfl | (simp only [diskT, pushD, cutD1, Int.toNat_natCast, List.map_append, List.map_cons, List.map_nil, DeedD.cs]; rfl)⟩⟩) | (have e := cut_arg (d := d) (i := 0) (.inr h26); exact ⟨by first | rfl | (rw [e.1]; done) | (rw [e.1]; rfl), by rw [e.2]; exact ⟨_, _, _, _, _, _, _, _, _, by first | rfl | (simp only [diskT, pushD, cutD1, Int.toNat_natCast, List.map_append, List.map_cons, List.map_nil, DeedD.cs]; rfl)⟩⟩) | (have e := cut_dark (d := d) (i := 0) h16 h26 h31; exact ⟨by first | rfl | (rw [e.1]; done) | (rw [e.1]; rfl), by rw [e.2]; exact ⟨_, _, _, _, _, _, _, _, _, by first | rfl | (simp only [diskT, pushD, cutD1, Int.toNat_natCast, List.map_append, List.map_cons, List.map_nil, DeedD.cs]; rfl)⟩⟩) | (have e := cut_burn (d := d) (i := 0) h16 h26 h31 h35; exact ⟨by first | rfl | (rw [e.1]; done) | (rw [e.1]; rfl), by rw [e.2]; exact ⟨_, _, _, _, _, _, _, _, _, by first | rfl | (simp only [diskT, pushD, cutD1, Int.toNat_natCast, List.map_append, List.map_cons, List.map_nil, DeedD.cs]; rfl)⟩⟩) | (have e := cut_go (d := d) (i := 0) h16 h26 h31 h35; exact ⟨by first | rfl | (rw [e.1]; done) | (rw [e.1]; rfl), by rw [e.2]; exact ⟨_, _, _, _, _, _, _, _, _, by first | rfl | (simp only [diskT, pushD, cutD1, Int.toNat_natCast, List.map_append, List.map_cons, List.map_nil, DeedD.cs]; rfl)⟩⟩)
      · (try simp only [decide_eq_true_eq, decide_eq_false_iff_not, beq_iff_eq, beq_eq_false_iff_ne, bne_iff_ne, bne_eq_false_iff_eq, Bool.not_eq_true', Bool.not_eq_false', ne_eq, Bool.not_eq_eq_eq_not, Bool.not_true, Bool.not_false, gt_iff_lt, ge_iff_le, Bool.not_not] at h31)
        refine AL.n ?_
        refine AL.ro (rd_move rfl rfl) ?_
        refine AL.on rfl rfl rfl (op_callo (burn_c d g g1 g2 g3 g4 g5 g6 g7 g8 g9 1 h.fuse (by omega)) rfl (by kernel_rfl) [0, 1, 2, 3, 4, 5, 6, 7, 8, 9] (by decide) (by simp only [diskT, List.map_cons, List.map_nil, renT, renC_owM, renC_box, renC_own, renC_nown, renC_obj, renC_off, ren0, List.getD_cons_zero, List.getD_cons_succ]; exact ⟨rfl, rfl, rfl, rfl, rfl, rfl, rfl, rfl, rfl, rfl, trivial⟩) rfl (by simp only [diskT, cleanS, cle_owM, cle_own, cle_nown, cle_obj, cle_off, cle_box, okC, liveA, List.take_succ_cons, List.take_zero, List.all_cons, List.all_nil, List.getElem?_cons_zero, List.getElem?_cons_succ, isO_owM, isO_own, isO_nown, TC.isB, beq_self_eq_true, Bool.and_self, Bool.and_true, ok1, ok2, List.map_cons, List.map_nil]) (by simp only [diskT, cleanS, cle_owM, cle_own, cle_nown, cle_obj, cle_off, cle_box, okC, liveA, List.take_succ_cons, List.take_zero, List.all_cons, List.all_nil, List.getElem?_cons_zero, List.getElem?_cons_succ, isO_owM, isO_own, isO_nown, TC.isB, beq_self_eq_true, Bool.and_self, Bool.and_true, ok1, ok2, List.map_cons, List.map_nil]) ?_)
        rintro y os' ⟨rfl, rfl⟩
        refine AL.no ?_ (by (try simp only [diskT, putA, evA, List.getD_cons_zero, List.getD_cons_succ, List.set_cons_zero, List.set_cons_succ, List.length_map, KR, splA, List.map_cons, List.map_nil, List.length_append, List.length_cons, List.length_nil, List.drop_zero, csS_len, csS_take, csS_drop, csS_app, byA_len, byA_take, byA_drop, byA_app, ← List.map_take, ← List.map_drop, ← List.map_append, List.take_succ_cons, List.take_zero, List.drop_succ_cons, List.cons_append, List.nil_append, Nat.zero_add, Nat.reduceAdd, Nat.reduceMul, Nat.add_zero, Nat.mul_one, putT, renT, renC_owM, renC_box, renC_own, renC_nown, renC_obj, renC_off, ren2, ren1, ren0, ok1, ok2]); (try rfl)) (by (try simp only [diskT, putA, evA, List.getD_cons_zero, List.getD_cons_succ, List.set_cons_zero, List.set_cons_succ, List.length_map, KR, splA, List.map_cons, List.map_nil, List.length_append, List.length_cons, List.length_nil, List.drop_zero, csS_len, csS_take, csS_drop, csS_app, byA_len, byA_take, byA_drop, byA_app, ← List.map_take, ← List.map_drop, ← List.map_append, List.take_succ_cons, List.take_zero, List.drop_succ_cons, List.cons_append, List.nil_append, Nat.zero_add, Nat.reduceAdd, Nat.reduceMul, Nat.add_zero, Nat.mul_one, putT, renT, renC_owM, renC_box, renC_own, renC_nown, renC_obj, renC_off, ren2, ren1, ren0, ok1, ok2]); (try rfl))
        refine AL.ro (rd_bin rfl rfl rfl (fun _ => rfl)) ?_
        refine AL.r (rd_pick_f rfl rfl rfl) ?_
        refine AL.nil ?_
        change AW _ _ _ _ _
        refine AW.cond rfl (fun h35 => ?_) (fun h35 => ?_)
        · (try simp only [decide_eq_true_eq, decide_eq_false_iff_not, beq_iff_eq, beq_eq_false_iff_ne, bne_iff_ne, bne_eq_false_iff_eq, Bool.not_eq_true', Bool.not_eq_false', ne_eq, Bool.not_eq_eq_eq_not, Bool.not_true, Bool.not_false, gt_iff_lt, ge_iff_le, Bool.not_not] at h35)
          refine AW.seq ?_
          refine AW.region ?_
          refine AL.r (rd_assign rfl rfl) ?_
          refine AL.nil ?_
          change AW _ _ _ _ _
          refine AW.ret ?_
          repeat with_reducible first | refine thenA_ret ?_ | refine inBlockA_ret ?_
          with_reducible first | refine retO_ret ?_ | refine retO_normal ?_
          refine reso1 rfl (Nat.le_of_ble_eq_true rfl) (by simp only [cleanS, cle_owM, cle_own, cle_nown, cle_obj, cle_off, cle_box, okC, liveA, List.take_succ_cons, List.take_zero, List.all_cons, List.all_nil, List.getElem?_cons_zero, List.getElem?_cons_succ, isO_owM, isO_own, isO_nown, TC.isB, beq_self_eq_true, Bool.and_self, Bool.and_true, ok1, ok2, List.map_cons, List.map_nil]) (ResV.tmp rfl) rfl (by simp only [cleanS, cle_owM, cle_own, cle_nown, cle_obj, cle_off, cle_box, okC, liveA, List.take_succ_cons, List.take_zero, List.all_cons, List.all_nil, List.getElem?_cons_zero, List.getElem?_cons_succ, isO_owM, isO_own, isO_nown, TC.isB, beq_self_eq_true, Bool.and_self, Bool.and_true, ok1, ok2, List.map_cons, List.map_nil]) ?_
          first | (have e := cut_arg (d := d) (i := 0) (.inl h16); exact ⟨by first | rfl | (rw [e.1]; done) | (rw [e.1]; rfl), by rw [e.2]; exact ⟨_, _, _, _, _, _, _, _, _, by first | rfl | (simp only [diskT, pushD, cutD1, Int.toNat_natCast, List.map_append, List.map_cons, List.map_nil, DeedD.cs]; rfl)⟩⟩) | (have e := cut_arg (d := d) (i := 0) (.inr h26); exact ⟨by first | rfl | (rw [e.1]; done) | (rw [e.1]; rfl), by rw [e.2]; exact ⟨_, _, _, _, _, _, _, _, _, by first | rfl | (simp only [diskT, pushD, cutD1, Int.toNat_natCast, List.map_append, List.map_cons, List.map_nil, DeedD.cs]; rfl)⟩⟩) | (have e := cut_dark (d := d) (i := 0) h16 h26 h31; exact ⟨by first | rfl | (rw [e.1]; done) | (rw [e.1]; rfl), by rw [e.2]; exact ⟨_, _, _, _, _, _, _, _, _, by first | rfl | (simp only [diskT, pushD, cutD1, Int.toNat_natCast, List.map_append, List.map_cons, List.map_nil, DeedD.cs]; rfl)⟩⟩) | (have e := cut_burn (d := d) (i := 0) h16 h26 h31 h35; exact ⟨by first | rfl | (rw [e.1]; done) | (rw [e.1]; rfl), by rw [e.2]; exact ⟨_, _, _, _, _, _, _, _, _, by first | rfl | (simp only [diskT, pushD, cutD1, Int.toNat_natCast, List.map_append, List.map_cons, List.map_nil, DeedD.cs]; rfl)⟩⟩) | (have e := cut_go (d := d) (i := 0) h16 h26 h31 h35; exact ⟨by first | rfl | (rw [e.1]; done) | (rw [e.1]; rfl), by rw [e.2]; exact ⟨_, _, _, _, _, _, _, _, _, by first | rfl | (simp only [diskT, pushD, cutD1, Int.toNat_natCast, List.map_append, List.map_cons, List.map_nil, DeedD.cs]; rfl)⟩⟩)
        · (try simp only [decide_eq_true_eq, decide_eq_false_iff_not, beq_iff_eq, beq_eq_false_iff_ne, bne_iff_ne, bne_eq_false_iff_eq, Bool.not_eq_true', Bool.not_eq_false', ne_eq, Bool.not_eq_eq_eq_not, Bool.not_true, Bool.not_false, gt_iff_lt, ge_iff_le, Bool.not_not] at h35)
          refine AW.skip ?_
          change AW _ _ _ _ _
          refine AW.seq ?_
          apply AW.drawS (by kernel_rfl)
          · skip
            refine ADA.r 0 rfl (ARdP.a (rdP_move rfl rfl)) rfl ?_
            refine ADA.r 1 rfl (ARdP.a (rdP_move rfl rfl)) rfl ?_
            refine ADA.r 2 rfl (ARdP.a (rdP_move rfl rfl)) rfl ?_
            refine ADA.r 3 rfl (ARdP.a (rdP_move rfl rfl)) rfl ?_
            refine ADA.r 4 rfl (ARdP.a (rdP_nilc_bx rfl rfl rfl)) rfl ?_
            refine ADA.r 5 rfl (ARdP.a (rdP_faddr_bx rfl fo_99_1 rfl rfl ⟨_, _, rfl⟩)) rfl ?_
            refine ADA.r 6 rfl (ARdP.a (rdP_iaddr_bx (i := 0) rfl ar_37 rfl rfl rfl (by first | rfl | omega) (by decide))) rfl ?_
            refine ADA.r 8 rfl (ARdP.a (rdP_move rfl rfl)) rfl ?_
            refine ADA.r 10 rfl (ARdP.a (rdP_nilc_bx rfl rfl rfl)) rfl ?_
            refine ADA.r 11 rfl (ARdP.a (rdP_faddr_bx rfl fo_99_1 rfl rfl ⟨_, _, rfl⟩)) rfl ?_
            refine ADA.b ?_
            refine ADB.move 7 rfl (by kernel_rfl) rfl (AOpB.op (ARd.opB (rd_load_bx rfl ag_29 rfl rfl rfl) ?_))
            refine ADB.n ?_
            refine ADB.move 9 rfl (by kernel_rfl) rfl (AOpB.op (op_sliceM (n := m) rfl el_29 rfl rfl rfl rfl (by simp only [byA_len, burnD]; omega) ?_))
            refine ADB.n ?_
            refine ADB.r 12 rfl (rdP_iaddr_bx (i := 0) rfl ar_37 rfl rfl rfl (by first | rfl | omega) (by decide)) rfl ?_
            refine ADB.move 13 rfl (by kernel_rfl) rfl (op_store rfl rfl rfl rfl rfl (by first | exact live_owM rfl | exact live_own rfl | exact live_nown rfl | rfl) sz_29 (Nat.le_of_ble_eq_true rfl) ?_)
            refine ADB.n ?_
            refine ADB.done (by kernel_rfl) ?_
            exact ⟨rfl, rfl⟩
          skip
          change AW _ _ _ _ _
          refine AW.seq ?_
          refine AW.region ?_
          refine AL.r (rd_move rfl rfl) ?_
          refine AL.r (rd_move rfl rfl) ?_
          refine AL.r (rd_nilc_bx rfl rfl rfl) ?_
          refine AL.r (rd_faddr_bx rfl fo_99_3 rfl rfl ⟨_, _, rfl⟩) ?_
          refine AL.r (rd_load_bx rfl ag_97 rfl rfl rfl) ?_
          refine AL.r (rd_move rfl rfl) ?_
          refine AL.r (rd_move rfl rfl) ?_
          refine AL.r (rd_build rfl pl_102 ze_102 rfl rfl) ?_
          refine AL.op rfl (AOpB.op (bs_set rfl ap_97 ze_102 rfl rfl ?_))
          refine AL.no ?_
          refine AL.op rfl (op_appendM rfl ap_97 rfl rfl (src_sl rfl (by first | exact csS_one | exact byA_one | (intro cs hcs; obtain rfl := List.mem_singleton.1 hcs; rfl) | (intro cs hcs; obtain ⟨_, _, rfl⟩ := List.mem_map.1 hcs; rfl) | simp)) (by simp [burnD]; omega) (by simp [burnD]; omega) ?_)
          refine AL.no ?_
          refine AL.r (rd_nilc_bx rfl rfl rfl) ?_
          refine AL.r (rd_faddr_bx rfl fo_99_3 rfl rfl ⟨_, _, rfl⟩) ?_
          refine AL.op rfl (op_store rfl rfl rfl rfl rfl (by first | exact live_owM rfl | exact live_own rfl | exact live_nown rfl | rfl) sz_97 (Nat.le_of_ble_eq_true rfl) ?_)
          refine AL.no ?_
          refine AL.nil ?_
          change AW _ _ _ _ _
          refine AW.seq ?_
          refine AW.region ?_
          refine AL.r (rd_move rfl rfl) ?_
          refine AL.r (rd_nilc_bx rfl rfl rfl) ?_
          refine AL.r (rd_faddr_bx rfl fo_99_4 rfl rfl ⟨_, _, rfl⟩) ?_
          refine AL.r (rd_load_bx rfl ag_3 rfl rfl rfl) ?_
          refine AL.r (rd_arith_add rfl rfl rfl (IntWalk.i64_in _ (by simp only [burnD]; omega))) ?_
          refine AL.r (rd_nilc_bx rfl rfl rfl) ?_
          refine AL.r (rd_faddr_bx rfl fo_99_4 rfl rfl ⟨_, _, rfl⟩) ?_
          refine AL.op rfl (op_store rfl rfl rfl rfl rfl rfl sz_3 (Nat.le_of_ble_eq_true rfl) ?_)
          refine AL.no ?_
          refine AL.nil ?_
          change AW _ _ _ _ _
          refine AW.seq ?_
          refine AW.region ?_
          refine AL.r (rd_assign rfl rfl) ?_
          refine AL.nil ?_
          change AW _ _ _ _ _
          refine AW.ret ?_
          repeat with_reducible first | refine thenA_ret ?_ | refine inBlockA_ret ?_
          with_reducible first | refine retO_ret ?_ | refine retO_normal ?_
          refine reso1 rfl (Nat.le_of_ble_eq_true rfl) (by simp only [cleanS, cle_owM, cle_own, cle_nown, cle_obj, cle_off, cle_box, okC, liveA, List.take_succ_cons, List.take_zero, List.all_cons, List.all_nil, List.getElem?_cons_zero, List.getElem?_cons_succ, isO_owM, isO_own, isO_nown, TC.isB, beq_self_eq_true, Bool.and_self, Bool.and_true, ok1, ok2, List.map_cons, List.map_nil]) (ResV.tmp rfl) rfl (by simp only [cleanS, cle_owM, cle_own, cle_nown, cle_obj, cle_off, cle_box, okC, liveA, List.take_succ_cons, List.take_zero, List.all_cons, List.all_nil, List.getElem?_cons_zero, List.getElem?_cons_succ, isO_owM, isO_own, isO_nown, TC.isB, beq_self_eq_true, Bool.and_self, Bool.and_true, ok1, ok2, List.map_cons, List.map_nil]) ?_
          first | (have e := cut_arg (d := d) (i := 0) (.inl h16); exact ⟨by first | rfl | (rw [e.1]; done) | (rw [e.1]; rfl), by rw [e.2]; exact ⟨_, _, _, _, _, _, _, _, _, by first | rfl | (simp only [diskT, pushD, cutD1, Int.toNat_natCast, List.map_append, List.map_cons, List.map_nil, DeedD.cs]; rfl)⟩⟩) | (have e := cut_arg (d := d) (i := 0) (.inr h26); exact ⟨by first | rfl | (rw [e.1]; done) | (rw [e.1]; rfl), by rw [e.2]; exact ⟨_, _, _, _, _, _, _, _, _, by first | rfl | (simp only [diskT, pushD, cutD1, Int.toNat_natCast, List.map_append, List.map_cons, List.map_nil, DeedD.cs]; rfl)⟩⟩) | (have e := cut_dark (d := d) (i := 0) h16 h26 h31; exact ⟨by first | rfl | (rw [e.1]; done) | (rw [e.1]; rfl), by rw [e.2]; exact ⟨_, _, _, _, _, _, _, _, _, by first | rfl | (simp only [diskT, pushD, cutD1, Int.toNat_natCast, List.map_append, List.map_cons, List.map_nil, DeedD.cs]; rfl)⟩⟩) | (have e := cut_burn (d := d) (i := 0) h16 h26 h31 h35; exact ⟨by first | rfl | (rw [e.1]; done) | (rw [e.1]; rfl), by rw [e.2]; exact ⟨_, _, _, _, _, _, _, _, _, by first | rfl | (simp only [diskT, pushD, cutD1, Int.toNat_natCast, List.map_append, List.map_cons, List.map_nil, DeedD.cs]; rfl)⟩⟩) | (have e := cut_go (d := d) (i := 0) h16 h26 h31 h35; exact ⟨by first | rfl | (rw [e.1]; done) | (rw [e.1]; rfl), by rw [e.2]; exact ⟨_, _, _, _, _, _, _, _, _, by first | rfl | (simp only [diskT, pushD, cutD1, Int.toNat_natCast, List.map_append, List.map_cons, List.map_nil, DeedD.cs]; rfl)⟩⟩)
theorem append_c1 (b : List UInt8) (h : d.Fit) (hb : b.length ≤ 1099511627776) : ACo Try.prog 19 [.bx 0 g 0, .sc (.int .i64 1), .sl (byA b)] (diskT g g1 g2 g3 g4 g5 g6 g7 g8 g9 d)
    (fun y os' => y = .sc (.int .i64 (appR d b)) ∧ DiskAt g (appD d 1 b) os') := by
  have hbn := burnN_le (n := b.length) h (by omega)
  have hw := h.w
  have hnn := h.n 1
  have hqq := h.q
  refine ACo.of (t0 := [.bx 0 g 0, .sc (.int .i64 1), .sl (byA b), AV.sc undef, AV.sc undef, AV.sc undef, AV.sc undef, AV.sc undef, AV.sc undef, AV.sc undef, AV.sc undef, AV.sc undef, AV.sc undef, AV.sc undef, AV.sc undef, AV.sc undef, AV.sc undef, AV.sc undef, AV.sc undef, AV.sc undef, AV.sc undef, AV.sc undef, AV.sc undef, AV.sc undef, AV.sc undef, AV.sc undef, AV.sc undef, AV.sc undef, AV.sc undef, AV.sc undef, AV.sc undef, AV.sc undef, AV.sc undef, AV.sc undef, AV.sc undef, AV.sc undef, AV.sc undef, AV.sc undef, AV.sc undef, AV.sc undef, AV.sc undef, AV.sc undef, AV.sc undef, AV.sc undef, AV.sc undef, AV.sc undef, AV.sc undef, AV.sc undef, AV.sc undef, AV.sc undef, AV.sc undef, AV.sc undef, AV.sc undef, AV.sc undef, AV.sc undef, AV.sc undef, AV.sc undef, AV.sc undef, AV.sc undef, AV.sc undef, AV.sc undef, AV.sc undef, AV.sc undef, AV.sc undef, AV.sc undef, AV.sc undef, AV.sc undef, AV.sc undef, AV.sc undef, AV.sc undef, AV.sc undef]) (st0 := [⟨g, .box 99 [.sc (.int .i64 d.room), .ow 1 g1, .ow 2 g2, .ow 3 g3, .ow 4 g4, .ow 5 g5, .ow 6 g6, .ow 7 g7, .ow 8 g8, .ow 9 g9, .sc (.int .i64 d.waits), .sc (.int .i64 d.done), .sc (.bool d.fused), .sc (.int .i64 d.fuse), .sc (.bool d.dark)]⟩, ⟨g1, owM (d.nf 0) 5 1 (byA (d.n 0))⟩, ⟨g2, owM (d.nf 1) 5 1 (byA (d.n 1))⟩, ⟨g3, owM (d.nf 2) 5 1 (byA (d.n 2))⟩, ⟨g4, owM (d.nf 3) 5 1 (byA (d.n 3))⟩, ⟨g5, owM (d.lf 0) 5 1 (byA (d.l 0))⟩, ⟨g6, owM (d.lf 1) 5 1 (byA (d.l 1))⟩, ⟨g7, owM (d.lf 2) 5 1 (byA (d.l 2))⟩, ⟨g8, owM (d.lf 3) 5 1 (byA (d.l 3))⟩, ⟨g9, owM true 102 4 (d.q.map DeedD.cs)⟩, TK.mk 0 .off, TK.mk 0 .off, TK.mk 0 .off, TK.mk 0 .off, TK.mk 0 .off]) 5 Try.func19 rfl rfl rfl 10 rfl ?_
  refine AW.seq ?_
  refine AW.region ?_
  refine AL.r (rd_assign rfl rfl) ?_
  refine AL.nil ?_
  change AW _ _ _ _ _
  refine AW.seq ?_
  refine AW.seq ?_
  refine AW.region ?_
  refine AL.r (rd_move rfl rfl) ?_
  refine AL.r (rd_peq_bx rfl pt_25 rfl rfl rfl) ?_
  refine AL.nil ?_
  change AW _ _ _ _ _
  refine AW.cond_f rfl ?_
  refine AW.skip ?_
  change AW _ _ _ _ _
  refine AW.seq ?_
  refine AW.seq ?_
  refine AW.region ?_
  refine AL.r (rd_move rfl rfl) ?_
  refine AL.op rfl (AOpB.op (op_call (right_in (by decide)) rfl (by kernel_rfl) rfl (none) ?_))
  rintro r rfl
  refine AL.no ?_
  refine AL.r (rd_un rfl rfl (fun _ => rfl)) ?_
  refine AL.nil ?_
  change AW _ _ _ _ _
  refine AW.cond_f rfl ?_
  refine AW.skip ?_
  change AW _ _ _ _ _
  refine AW.seq ?_
  refine AW.seq ?_
  refine AW.region ?_
  refine AL.r (rd_move rfl rfl) ?_
  refine AL.r (rd_nilc_bx rfl rfl rfl) ?_
  refine AL.r (rd_faddr_bx rfl fo_99_8 rfl rfl ⟨_, _, rfl⟩) ?_
  refine AL.r (rd_load_bx rfl ag_4 rfl rfl rfl) ?_
  refine AL.nil ?_
  change AW _ _ _ _ _
  refine AW.cond rfl (fun h16 => ?_) (fun h16 => ?_)
  · (try simp only [decide_eq_true_eq, decide_eq_false_iff_not, beq_iff_eq, beq_eq_false_iff_ne, bne_iff_ne, bne_eq_false_iff_eq, Bool.not_eq_true', Bool.not_eq_false', ne_eq, Bool.not_eq_eq_eq_not, Bool.not_true, Bool.not_false, gt_iff_lt, ge_iff_le, Bool.not_not] at h16)
    refine AW.seq ?_
    refine AW.region ?_
    refine AL.r (rd_assign rfl rfl) ?_
    refine AL.nil ?_
    change AW _ _ _ _ _
    refine AW.ret ?_
    repeat with_reducible first | refine thenA_ret ?_ | refine inBlockA_ret ?_
    with_reducible first | refine retO_ret ?_ | refine retO_normal ?_
    refine reso1 rfl (Nat.le_of_ble_eq_true rfl) (by simp only [cleanS, cle_owM, cle_own, cle_nown, cle_obj, cle_off, cle_box, okC, liveA, List.take_succ_cons, List.take_zero, List.all_cons, List.all_nil, List.getElem?_cons_zero, List.getElem?_cons_succ, isO_owM, isO_own, isO_nown, TC.isB, beq_self_eq_true, Bool.and_self, Bool.and_true, ok1, ok2, List.map_cons, List.map_nil]) (ResV.tmp rfl) rfl (by simp only [cleanS, cle_owM, cle_own, cle_nown, cle_obj, cle_off, cle_box, okC, liveA, List.take_succ_cons, List.take_zero, List.all_cons, List.all_nil, List.getElem?_cons_zero, List.getElem?_cons_succ, isO_owM, isO_own, isO_nown, TC.isB, beq_self_eq_true, Bool.and_self, Bool.and_true, ok1, ok2, List.map_cons, List.map_nil]) ?_
    first | (have e := app_dark (b := b) (i := 1) h16; exact ⟨by first | rfl | (rw [e.1]; done) | (rw [e.1]; rfl), by rw [e.2]; exact ⟨_, _, _, _, _, _, _, _, _, by first | rfl | (simp only [diskT, pushD, cutD1, Int.toNat_natCast, List.map_append, List.map_cons, List.map_nil, DeedD.cs]; rfl)⟩⟩) | (have e := app_full (i := 1) h16 h21; exact ⟨by first | rfl | (rw [e.1]; done) | (rw [e.1]; rfl), by rw [e.2]; exact ⟨_, _, _, _, _, _, _, _, _, by first | rfl | (simp only [diskT, pushD, cutD1, Int.toNat_natCast, List.map_append, List.map_cons, List.map_nil, DeedD.cs]; rfl)⟩⟩) | (have e := app_go (i := 1) h16 h21 h27 h70; exact ⟨by first | rfl | (rw [e.1]; done) | (rw [e.1]; rfl), by rw [e.2]; exact ⟨_, _, _, _, _, _, _, _, _, by first | rfl | (simp only [diskT, pushD, cutD1, Int.toNat_natCast, List.map_append, List.map_cons, List.map_nil, DeedD.cs]; rfl)⟩⟩) | (have e := app_no (i := 1) h16 h21 h27 h70; exact ⟨by first | rfl | (rw [e.1]; done) | (rw [e.1]; rfl), by rw [e.2]; exact ⟨_, _, _, _, _, _, _, _, _, by first | rfl | (simp only [diskT, pushD, cutD1, Int.toNat_natCast, List.map_append, List.map_cons, List.map_nil, DeedD.cs]; rfl)⟩⟩)
  · (try simp only [decide_eq_true_eq, decide_eq_false_iff_not, beq_iff_eq, beq_eq_false_iff_ne, bne_iff_ne, bne_eq_false_iff_eq, Bool.not_eq_true', Bool.not_eq_false', ne_eq, Bool.not_eq_eq_eq_not, Bool.not_true, Bool.not_false, gt_iff_lt, ge_iff_le, Bool.not_not] at h16)
    refine AW.skip ?_
    change AW _ _ _ _ _
    refine AW.seq ?_
    refine AW.seq ?_
    refine AW.region ?_
    refine AL.r (rd_move rfl rfl) ?_
    refine AL.r (rd_len_sl rfl el_29 rfl) ?_
    refine AL.r (rd_move rfl rfl) ?_
    refine AL.op rfl (op_callo (left_c d g g1 g2 g3 g4 g5 g6 g7 g8 g9 h.room h.n) rfl (by kernel_rfl) [0, 1, 2, 3, 4, 5, 6, 7, 8, 9] (by decide) (by simp only [diskT, List.map_cons, List.map_nil, renT, renC_owM, renC_box, renC_own, renC_nown, renC_obj, renC_off, ren0, List.getD_cons_zero, List.getD_cons_succ]; exact ⟨rfl, rfl, rfl, rfl, rfl, rfl, rfl, rfl, rfl, rfl, trivial⟩) rfl (by simp only [diskT, cleanS, cle_owM, cle_own, cle_nown, cle_obj, cle_off, cle_box, okC, liveA, List.take_succ_cons, List.take_zero, List.all_cons, List.all_nil, List.getElem?_cons_zero, List.getElem?_cons_succ, isO_owM, isO_own, isO_nown, TC.isB, beq_self_eq_true, Bool.and_self, Bool.and_true, ok1, ok2, List.map_cons, List.map_nil]) (by simp only [diskT, cleanS, cle_owM, cle_own, cle_nown, cle_obj, cle_off, cle_box, okC, liveA, List.take_succ_cons, List.take_zero, List.all_cons, List.all_nil, List.getElem?_cons_zero, List.getElem?_cons_succ, isO_owM, isO_own, isO_nown, TC.isB, beq_self_eq_true, Bool.and_self, Bool.and_true, ok1, ok2, List.map_cons, List.map_nil]) ?_)
    rintro y os' ⟨rfl, rfl⟩
    refine AL.no ?_ (by (try simp only [diskT, putA, evA, List.getD_cons_zero, List.getD_cons_succ, List.set_cons_zero, List.set_cons_succ, List.length_map, KR, splA, List.map_cons, List.map_nil, List.length_append, List.length_cons, List.length_nil, List.drop_zero, csS_len, csS_take, csS_drop, csS_app, byA_len, byA_take, byA_drop, byA_app, ← List.map_take, ← List.map_drop, ← List.map_append, List.take_succ_cons, List.take_zero, List.drop_succ_cons, List.cons_append, List.nil_append, Nat.zero_add, Nat.reduceAdd, Nat.reduceMul, Nat.add_zero, Nat.mul_one, putT, renT, renC_owM, renC_box, renC_own, renC_nown, renC_obj, renC_off, ren2, ren1, ren0, ok1, ok2]); (try rfl)) (by (try simp only [diskT, putA, evA, List.getD_cons_zero, List.getD_cons_succ, List.set_cons_zero, List.set_cons_succ, List.length_map, KR, splA, List.map_cons, List.map_nil, List.length_append, List.length_cons, List.length_nil, List.drop_zero, csS_len, csS_take, csS_drop, csS_app, byA_len, byA_take, byA_drop, byA_app, ← List.map_take, ← List.map_drop, ← List.map_append, List.take_succ_cons, List.take_zero, List.drop_succ_cons, List.cons_append, List.nil_append, Nat.zero_add, Nat.reduceAdd, Nat.reduceMul, Nat.add_zero, Nat.mul_one, putT, renT, renC_owM, renC_box, renC_own, renC_nown, renC_obj, renC_off, ren2, ren1, ren0, ok1, ok2]); (try rfl))
    refine AL.r (rd_bin rfl rfl rfl (fun _ => rfl)) ?_
    refine AL.nil ?_
    change AW _ _ _ _ _
    refine AW.cond rfl (fun h21 => ?_) (fun h21 => ?_)
    · (try simp only [decide_eq_true_eq, decide_eq_false_iff_not, beq_iff_eq, beq_eq_false_iff_ne, bne_iff_ne, bne_eq_false_iff_eq, Bool.not_eq_true', Bool.not_eq_false', ne_eq, Bool.not_eq_eq_eq_not, Bool.not_true, Bool.not_false, gt_iff_lt, ge_iff_le, Bool.not_not] at h21)
      refine AW.seq ?_
      refine AW.region ?_
      refine AL.r (rd_assign rfl rfl) ?_
      refine AL.nil ?_
      change AW _ _ _ _ _
      refine AW.ret ?_
      repeat with_reducible first | refine thenA_ret ?_ | refine inBlockA_ret ?_
      with_reducible first | refine retO_ret ?_ | refine retO_normal ?_
      refine reso1 rfl (Nat.le_of_ble_eq_true rfl) (by simp only [cleanS, cle_owM, cle_own, cle_nown, cle_obj, cle_off, cle_box, okC, liveA, List.take_succ_cons, List.take_zero, List.all_cons, List.all_nil, List.getElem?_cons_zero, List.getElem?_cons_succ, isO_owM, isO_own, isO_nown, TC.isB, beq_self_eq_true, Bool.and_self, Bool.and_true, ok1, ok2, List.map_cons, List.map_nil]) (ResV.tmp rfl) rfl (by simp only [cleanS, cle_owM, cle_own, cle_nown, cle_obj, cle_off, cle_box, okC, liveA, List.take_succ_cons, List.take_zero, List.all_cons, List.all_nil, List.getElem?_cons_zero, List.getElem?_cons_succ, isO_owM, isO_own, isO_nown, TC.isB, beq_self_eq_true, Bool.and_self, Bool.and_true, ok1, ok2, List.map_cons, List.map_nil]) ?_
      first | (have e := app_dark (b := b) (i := 1) h16; exact ⟨by first | rfl | (rw [e.1]; done) | (rw [e.1]; rfl), by rw [e.2]; exact ⟨_, _, _, _, _, _, _, _, _, by first | rfl | (simp only [diskT, pushD, cutD1, Int.toNat_natCast, List.map_append, List.map_cons, List.map_nil, DeedD.cs]; rfl)⟩⟩) | (have e := app_full (i := 1) h16 h21; exact ⟨by first | rfl | (rw [e.1]; done) | (rw [e.1]; rfl), by rw [e.2]; exact ⟨_, _, _, _, _, _, _, _, _, by first | rfl | (simp only [diskT, pushD, cutD1, Int.toNat_natCast, List.map_append, List.map_cons, List.map_nil, DeedD.cs]; rfl)⟩⟩) | (have e := app_go (i := 1) h16 h21 h27 h70; exact ⟨by first | rfl | (rw [e.1]; done) | (rw [e.1]; rfl), by rw [e.2]; exact ⟨_, _, _, _, _, _, _, _, _, by first | rfl | (simp only [diskT, pushD, cutD1, Int.toNat_natCast, List.map_append, List.map_cons, List.map_nil, DeedD.cs]; rfl)⟩⟩) | (have e := app_no (i := 1) h16 h21 h27 h70; exact ⟨by first | rfl | (rw [e.1]; done) | (rw [e.1]; rfl), by rw [e.2]; exact ⟨_, _, _, _, _, _, _, _, _, by first | rfl | (simp only [diskT, pushD, cutD1, Int.toNat_natCast, List.map_append, List.map_cons, List.map_nil, DeedD.cs]; rfl)⟩⟩)
    · (try simp only [decide_eq_true_eq, decide_eq_false_iff_not, beq_iff_eq, beq_eq_false_iff_ne, bne_iff_ne, bne_eq_false_iff_eq, Bool.not_eq_true', Bool.not_eq_false', ne_eq, Bool.not_eq_eq_eq_not, Bool.not_true, Bool.not_false, gt_iff_lt, ge_iff_le, Bool.not_not] at h21)
      refine AW.skip ?_
      change AW _ _ _ _ _
      refine AW.seq ?_
      refine AW.region ?_
      refine AL.r (rd_move rfl rfl) ?_
      refine AL.r (rd_move rfl rfl) ?_
      refine AL.r (rd_len_sl rfl el_29 rfl) ?_
      refine AL.op rfl (op_callo (burn_c d g g1 g2 g3 g4 g5 g6 g7 g8 g9 (b.length : Int) h.fuse (by omega)) rfl (by kernel_rfl) [0, 1, 2, 3, 4, 5, 6, 7, 8, 9] (by decide) (by simp only [diskT, List.map_cons, List.map_nil, renT, renC_owM, renC_box, renC_own, renC_nown, renC_obj, renC_off, ren0, List.getD_cons_zero, List.getD_cons_succ]; exact ⟨rfl, rfl, rfl, rfl, rfl, rfl, rfl, rfl, rfl, rfl, trivial⟩) rfl (by simp only [diskT, cleanS, cle_owM, cle_own, cle_nown, cle_obj, cle_off, cle_box, okC, liveA, List.take_succ_cons, List.take_zero, List.all_cons, List.all_nil, List.getElem?_cons_zero, List.getElem?_cons_succ, isO_owM, isO_own, isO_nown, TC.isB, beq_self_eq_true, Bool.and_self, Bool.and_true, ok1, ok2, List.map_cons, List.map_nil]) (by simp only [diskT, cleanS, cle_owM, cle_own, cle_nown, cle_obj, cle_off, cle_box, okC, liveA, List.take_succ_cons, List.take_zero, List.all_cons, List.all_nil, List.getElem?_cons_zero, List.getElem?_cons_succ, isO_owM, isO_own, isO_nown, TC.isB, beq_self_eq_true, Bool.and_self, Bool.and_true, ok1, ok2, List.map_cons, List.map_nil]) ?_)
      rintro y os' ⟨rfl, rfl⟩
      refine AL.no ?_ (by (try simp only [diskT, putA, evA, List.getD_cons_zero, List.getD_cons_succ, List.set_cons_zero, List.set_cons_succ, List.length_map, KR, splA, List.map_cons, List.map_nil, List.length_append, List.length_cons, List.length_nil, List.drop_zero, csS_len, csS_take, csS_drop, csS_app, byA_len, byA_take, byA_drop, byA_app, ← List.map_take, ← List.map_drop, ← List.map_append, List.take_succ_cons, List.take_zero, List.drop_succ_cons, List.cons_append, List.nil_append, Nat.zero_add, Nat.reduceAdd, Nat.reduceMul, Nat.add_zero, Nat.mul_one, putT, renT, renC_owM, renC_box, renC_own, renC_nown, renC_obj, renC_off, ren2, ren1, ren0, ok1, ok2]); (try rfl)) (by (try simp only [diskT, putA, evA, List.getD_cons_zero, List.getD_cons_succ, List.set_cons_zero, List.set_cons_succ, List.length_map, KR, splA, List.map_cons, List.map_nil, List.length_append, List.length_cons, List.length_nil, List.drop_zero, csS_len, csS_take, csS_drop, csS_app, byA_len, byA_take, byA_drop, byA_app, ← List.map_take, ← List.map_drop, ← List.map_append, List.take_succ_cons, List.take_zero, List.drop_succ_cons, List.cons_append, List.nil_append, Nat.zero_add, Nat.reduceAdd, Nat.reduceMul, Nat.add_zero, Nat.mul_one, putT, renT, renC_owM, renC_box, renC_own, renC_nown, renC_obj, renC_off, ren2, ren1, ren0, ok1, ok2]); (try rfl))
      refine AL.r (rd_assign rfl rfl) ?_
      refine AL.nil ?_
      change AW _ _ _ _ _
      refine AW.seq ?_
      refine AW.seq ?_
      refine AW.region ?_
      refine AL.r (rd_move rfl rfl) ?_
      refine AL.r (rd_bin rfl rfl rfl (fun _ => rfl)) ?_
      refine AL.nil ?_
      change AW _ _ _ _ _
      refine AW.cond rfl (fun h27 => ?_) (fun h27 => ?_)
      · (try simp only [decide_eq_true_eq, decide_eq_false_iff_not, beq_iff_eq, beq_eq_false_iff_ne, bne_iff_ne, bne_eq_false_iff_eq, Bool.not_eq_true', Bool.not_eq_false', ne_eq, Bool.not_eq_eq_eq_not, Bool.not_true, Bool.not_false, gt_iff_lt, ge_iff_le, Bool.not_not] at h27)
        refine AW.seq ?_
        apply AW.drawS (by kernel_rfl)
        · skip
          refine ADA.r 0 rfl (ARdP.a (rdP_move rfl rfl)) rfl ?_
          refine ADA.r 1 rfl (ARdP.a (rdP_move rfl rfl)) rfl ?_
          refine ADA.r 2 rfl (ARdP.a (rdP_move rfl rfl)) rfl ?_
          refine ADA.r 3 rfl (ARdP.a (rdP_move rfl rfl)) rfl ?_
          refine ADA.r 4 rfl (ARdP.a (rdP_nilc_bx rfl rfl rfl)) rfl ?_
          refine ADA.r 5 rfl (ARdP.a (rdP_faddr_bx rfl fo_99_1 rfl rfl ⟨_, _, rfl⟩)) rfl ?_
          refine ADA.r 6 rfl (ARdP.a (rdP_iaddr_bx (i := 1) rfl ar_37 rfl rfl rfl (by first | rfl | omega) (by decide))) rfl ?_
          refine ADA.r 8 rfl (ARdP.a (rdP_move rfl rfl)) rfl ?_
          refine ADA.r 9 rfl (ARdP.a (rdP_move rfl rfl)) rfl ?_
          refine ADA.r 10 rfl (ARdP.a (rdP_slice_sl rfl el_29 rfl byA_one rfl ⟨_, _, rfl, (Int.toNat_of_nonneg (by omega)).symm⟩ (by omega) (by simp only [byA_len]; omega))) rfl ?_
          refine ADA.r 12 rfl (ARdP.a (rdP_nilc_bx rfl rfl rfl)) rfl ?_
          refine ADA.r 13 rfl (ARdP.a (rdP_faddr_bx rfl fo_99_1 rfl rfl ⟨_, _, rfl⟩)) rfl ?_
          refine ADA.b ?_
          refine ADB.move 7 rfl (by kernel_rfl) rfl (AOpB.op (ARd.opB (rd_load_bx rfl ag_29 rfl rfl rfl) ?_))
          refine ADB.n ?_
          refine ADB.move 11 rfl (by kernel_rfl) rfl (op_appendM rfl ap_29 rfl rfl (src_sl rfl (by first | exact csS_one | exact byA_one | (intro cs hcs; obtain rfl := List.mem_singleton.1 hcs; rfl) | (intro cs hcs; obtain ⟨_, _, rfl⟩ := List.mem_map.1 hcs; rfl) | simp)) (by simp only [byA_len, burnD, List.length_drop, List.length_take]; omega) (by simp only [byA_len, burnD, List.length_drop, List.length_take]; omega) ?_)
          refine ADB.n ?_
          refine ADB.r 14 rfl (rdP_iaddr_bx (i := 1) rfl ar_37 rfl rfl rfl (by first | rfl | omega) (by decide)) rfl ?_
          refine ADB.move 15 rfl (by kernel_rfl) rfl (op_store rfl rfl rfl rfl rfl (by first | exact live_owM rfl | exact live_own rfl | exact live_nown rfl | rfl) sz_29 (Nat.le_of_ble_eq_true rfl) ?_)
          refine ADB.n ?_
          refine ADB.done (by kernel_rfl) ?_
          exact ⟨rfl, rfl⟩
        skip
        change AW _ _ _ _ _
        refine AW.seq ?_
        apply AW.drawS (by kernel_rfl)
        · skip
          refine ADA.r 0 rfl (ARdP.a (rdP_move rfl rfl)) rfl ?_
          refine ADA.r 1 rfl (ARdP.a (rdP_move rfl rfl)) rfl ?_
          refine ADA.r 2 rfl (ARdP.a (rdP_nilc_bx rfl rfl rfl)) rfl ?_
          refine ADA.r 3 rfl (ARdP.a (rdP_faddr_bx rfl fo_99_3 rfl rfl ⟨_, _, rfl⟩)) rfl ?_
          refine ADA.r 5 rfl (ARdP.a (rdP_move rfl rfl)) rfl ?_
          refine ADA.r 7 rfl (ARdP.a (rdP_move rfl rfl)) rfl ?_
          refine ADA.r 8 rfl (ARdP.a (rdP_move rfl rfl)) rfl ?_
          refine ADA.r 9 rfl (ARdP.a (rdP_slice_sl rfl el_29 rfl byA_one rfl ⟨_, _, rfl, (Int.toNat_of_nonneg (by omega)).symm⟩ (by omega) (by simp only [byA_len]; omega))) rfl ?_
          refine ADA.b ?_
          refine ADB.all (is := [4, 6]) (by kernel_rfl) (by simp) ?_
          intro i hi
          simp only [List.mem_cons, List.not_mem_nil, or_false] at hi
          rcases hi with rfl | rfl
          · skip
            refine ⟨_, rfl, rfl, AOpB.op (ARd.opB (rd_load_bx rfl ag_97 rfl rfl rfl) ?_)⟩
            refine ADB.n ?_
            refine ADB.move 6 rfl (by kernel_rfl) rfl (AOpB.op (bs_own 11 rfl ap_29 ze_5 rfl rfl rfl ?_))
            refine ADB.n ?_
            refine ADB.move 10 rfl (by kernel_rfl) rfl (op_append rfl ap_29 rfl rfl (src_sl rfl (by first | exact csS_one | exact byA_one | (intro cs hcs; obtain rfl := List.mem_singleton.1 hcs; rfl) | (intro cs hcs; obtain ⟨_, _, rfl⟩ := List.mem_map.1 hcs; rfl) | simp)) (by simp [byA_len]; omega) (by simp [byA_len]; omega) ?_)
            refine ADB.n ?_
            refine ADB.settle 53 rfl rfl (by first | rfl | exact cont_owM _ _ _ _) ?_
            refine ADB.n ?_
            refine ADB.r 11 rfl (rdP_build rfl pl_102 ze_102 rfl rfl) rfl ?_
            refine ADB.move 12 rfl (by kernel_rfl) rfl (AOpB.op (bs_set rfl ap_97 ze_102 rfl rfl ?_))
            refine ADB.n ?_
            refine ADB.move 13 rfl (by kernel_rfl) rfl (op_appendM rfl ap_97 rfl rfl (src_sl rfl (by first | exact csS_one | exact byA_one | (intro cs hcs; obtain rfl := List.mem_singleton.1 hcs; rfl) | (intro cs hcs; obtain ⟨_, _, rfl⟩ := List.mem_map.1 hcs; rfl) | simp)) (by simp [burnD]; omega) (by simp [burnD]; omega) ?_)
            refine ADB.n ?_
            refine ADB.r 14 rfl (rdP_nilc_bx rfl rfl rfl) rfl ?_
            refine ADB.r 15 rfl (rdP_faddr_bx rfl fo_99_3 rfl rfl ⟨_, _, rfl⟩) rfl ?_
            refine ADB.move 16 rfl (by kernel_rfl) rfl (op_store rfl rfl rfl rfl rfl (by first | exact live_owM rfl | exact live_own rfl | exact live_nown rfl | rfl) sz_97 (Nat.le_of_ble_eq_true rfl) ?_)
            refine ADB.n ?_
            refine ADB.done (by kernel_rfl) ?_
            exact ⟨rfl, rfl⟩
          · skip
            refine ⟨_, rfl, rfl, AOpB.op (bs_own 11 rfl ap_29 ze_5 rfl rfl rfl ?_)⟩
            refine ADB.n ?_
            refine ADB.all (is := [4, 10]) (by kernel_rfl) (by simp) ?_
            intro i hi
            simp only [List.mem_cons, List.not_mem_nil, or_false] at hi
            rcases hi with rfl | rfl
            · skip
              refine ⟨_, rfl, rfl, AOpB.op (ARd.opB (rd_load_bx rfl ag_97 rfl rfl rfl) ?_)⟩
              refine ADB.n ?_
              refine ADB.move 10 rfl (by kernel_rfl) rfl (op_append rfl ap_29 rfl rfl (src_sl rfl (by first | exact csS_one | exact byA_one | (intro cs hcs; obtain rfl := List.mem_singleton.1 hcs; rfl) | (intro cs hcs; obtain ⟨_, _, rfl⟩ := List.mem_map.1 hcs; rfl) | simp)) (by simp [byA_len]; omega) (by simp [byA_len]; omega) ?_)
              refine ADB.n ?_
              refine ADB.settle 53 rfl rfl (by first | rfl | exact cont_owM _ _ _ _) ?_
              refine ADB.n ?_
              refine ADB.r 11 rfl (rdP_build rfl pl_102 ze_102 rfl rfl) rfl ?_
              refine ADB.move 12 rfl (by kernel_rfl) rfl (AOpB.op (bs_set rfl ap_97 ze_102 rfl rfl ?_))
              refine ADB.n ?_
              refine ADB.move 13 rfl (by kernel_rfl) rfl (op_appendM rfl ap_97 rfl rfl (src_sl rfl (by first | exact csS_one | exact byA_one | (intro cs hcs; obtain rfl := List.mem_singleton.1 hcs; rfl) | (intro cs hcs; obtain ⟨_, _, rfl⟩ := List.mem_map.1 hcs; rfl) | simp)) (by simp [burnD]; omega) (by simp [burnD]; omega) ?_)
              refine ADB.n ?_
              refine ADB.r 14 rfl (rdP_nilc_bx rfl rfl rfl) rfl ?_
              refine ADB.r 15 rfl (rdP_faddr_bx rfl fo_99_3 rfl rfl ⟨_, _, rfl⟩) rfl ?_
              refine ADB.move 16 rfl (by kernel_rfl) rfl (op_store rfl rfl rfl rfl rfl (by first | exact live_owM rfl | exact live_own rfl | exact live_nown rfl | rfl) sz_97 (Nat.le_of_ble_eq_true rfl) ?_)
              refine ADB.n ?_
              refine ADB.done (by kernel_rfl) ?_
              exact ⟨rfl, rfl⟩
            · skip
              refine ⟨_, rfl, rfl, op_append rfl ap_29 rfl rfl (src_sl rfl (by first | exact csS_one | exact byA_one | (intro cs hcs; obtain rfl := List.mem_singleton.1 hcs; rfl) | (intro cs hcs; obtain ⟨_, _, rfl⟩ := List.mem_map.1 hcs; rfl) | simp)) (by simp [byA_len]; omega) (by simp [byA_len]; omega) ?_⟩
              refine ADB.n ?_
              refine ADB.settle 53 rfl rfl (by first | rfl | exact cont_owM _ _ _ _) ?_
              refine ADB.n ?_
              refine ADB.r 11 rfl (rdP_build rfl pl_102 ze_102 rfl rfl) rfl ?_
              refine ADB.all (is := [4, 12]) (by kernel_rfl) (by simp) ?_
              intro i hi
              simp only [List.mem_cons, List.not_mem_nil, or_false] at hi
              rcases hi with rfl | rfl
              · skip
                refine ⟨_, rfl, rfl, AOpB.op (ARd.opB (rd_load_bx rfl ag_97 rfl rfl rfl) ?_)⟩
                refine ADB.n ?_
                refine ADB.move 12 rfl (by kernel_rfl) rfl (AOpB.op (bs_set rfl ap_97 ze_102 rfl rfl ?_))
                refine ADB.n ?_
                refine ADB.move 13 rfl (by kernel_rfl) rfl (op_appendM rfl ap_97 rfl rfl (src_sl rfl (by first | exact csS_one | exact byA_one | (intro cs hcs; obtain rfl := List.mem_singleton.1 hcs; rfl) | (intro cs hcs; obtain ⟨_, _, rfl⟩ := List.mem_map.1 hcs; rfl) | simp)) (by simp [burnD]; omega) (by simp [burnD]; omega) ?_)
                refine ADB.n ?_
                refine ADB.r 14 rfl (rdP_nilc_bx rfl rfl rfl) rfl ?_
                refine ADB.r 15 rfl (rdP_faddr_bx rfl fo_99_3 rfl rfl ⟨_, _, rfl⟩) rfl ?_
                refine ADB.move 16 rfl (by kernel_rfl) rfl (op_store rfl rfl rfl rfl rfl (by first | exact live_owM rfl | exact live_own rfl | exact live_nown rfl | rfl) sz_97 (Nat.le_of_ble_eq_true rfl) ?_)
                refine ADB.n ?_
                refine ADB.done (by kernel_rfl) ?_
                exact ⟨rfl, rfl⟩
              · skip
                refine ⟨_, rfl, rfl, AOpB.op (bs_set rfl ap_97 ze_102 rfl rfl ?_)⟩
                refine ADB.n ?_
                refine ADB.move 4 rfl (by kernel_rfl) rfl (AOpB.op (ARd.opB (rd_load_bx rfl ag_97 rfl rfl rfl) ?_))
                refine ADB.n ?_
                refine ADB.move 13 rfl (by kernel_rfl) rfl (op_appendM rfl ap_97 rfl rfl (src_sl rfl (by first | exact csS_one | exact byA_one | (intro cs hcs; obtain rfl := List.mem_singleton.1 hcs; rfl) | (intro cs hcs; obtain ⟨_, _, rfl⟩ := List.mem_map.1 hcs; rfl) | simp)) (by simp [burnD]; omega) (by simp [burnD]; omega) ?_)
                refine ADB.n ?_
                refine ADB.r 14 rfl (rdP_nilc_bx rfl rfl rfl) rfl ?_
                refine ADB.r 15 rfl (rdP_faddr_bx rfl fo_99_3 rfl rfl ⟨_, _, rfl⟩) rfl ?_
                refine ADB.move 16 rfl (by kernel_rfl) rfl (op_store rfl rfl rfl rfl rfl (by first | exact live_owM rfl | exact live_own rfl | exact live_nown rfl | rfl) sz_97 (Nat.le_of_ble_eq_true rfl) ?_)
                refine ADB.n ?_
                refine ADB.done (by kernel_rfl) ?_
                exact ⟨rfl, rfl⟩
        skip
        change AW _ _ _ _ _
        refine AW.region ?_
        refine AL.r (rd_move rfl rfl) ?_
        refine AL.r (rd_nilc_bx rfl rfl rfl) ?_
        refine AL.r (rd_faddr_bx rfl fo_99_4 rfl rfl ⟨_, _, rfl⟩) ?_
        refine AL.r (rd_load_bx rfl ag_3 rfl rfl rfl) ?_
        refine AL.r (rd_move rfl rfl) ?_
        refine AL.r (rd_arith_add rfl rfl rfl (IntWalk.i64_in _ (by simp only [burnD]; omega))) ?_
        refine AL.r (rd_nilc_bx rfl rfl rfl) ?_
        refine AL.r (rd_faddr_bx rfl fo_99_4 rfl rfl ⟨_, _, rfl⟩) ?_
        refine AL.op rfl (op_store rfl rfl rfl rfl rfl rfl sz_3 (Nat.le_of_ble_eq_true rfl) ?_)
        refine AL.no ?_
        refine AL.nil ?_
        change AW _ _ _ _ _
        refine AW.seq ?_
        refine AW.seq ?_
        refine AW.region ?_
        refine AL.r (rd_move rfl rfl) ?_
        refine AL.r (rd_nilc_bx rfl rfl rfl) ?_
        refine AL.r (rd_faddr_bx rfl fo_99_8 rfl rfl ⟨_, _, rfl⟩) ?_
        refine AL.r (rd_load_bx rfl ag_4 rfl rfl rfl) ?_
        refine AL.nil ?_
        change AW _ _ _ _ _
        refine AW.cond rfl (fun h70 => ?_) (fun h70 => ?_)
        · (try simp only [decide_eq_true_eq, decide_eq_false_iff_not, beq_iff_eq, beq_eq_false_iff_ne, bne_iff_ne, bne_eq_false_iff_eq, Bool.not_eq_true', Bool.not_eq_false', ne_eq, Bool.not_eq_eq_eq_not, Bool.not_true, Bool.not_false, gt_iff_lt, ge_iff_le, Bool.not_not] at h70)
          refine AW.seq ?_
          refine AW.region ?_
          refine AL.r (rd_assign rfl rfl) ?_
          refine AL.nil ?_
          change AW _ _ _ _ _
          refine AW.ret ?_
          repeat with_reducible first | refine thenA_ret ?_ | refine inBlockA_ret ?_
          with_reducible first | refine retO_ret ?_ | refine retO_normal ?_
          refine reso1 rfl (Nat.le_of_ble_eq_true rfl) (by simp only [cleanS, cle_owM, cle_own, cle_nown, cle_obj, cle_off, cle_box, okC, liveA, List.take_succ_cons, List.take_zero, List.all_cons, List.all_nil, List.getElem?_cons_zero, List.getElem?_cons_succ, isO_owM, isO_own, isO_nown, TC.isB, beq_self_eq_true, Bool.and_self, Bool.and_true, ok1, ok2, List.map_cons, List.map_nil]) (ResV.tmp rfl) rfl (by simp only [cleanS, cle_owM, cle_own, cle_nown, cle_obj, cle_off, cle_box, okC, liveA, List.take_succ_cons, List.take_zero, List.all_cons, List.all_nil, List.getElem?_cons_zero, List.getElem?_cons_succ, isO_owM, isO_own, isO_nown, TC.isB, beq_self_eq_true, Bool.and_self, Bool.and_true, ok1, ok2, List.map_cons, List.map_nil]) ?_
          first | (have e := app_dark (b := b) (i := 1) h16; exact ⟨by first | rfl | (rw [e.1]; done) | (rw [e.1]; rfl), by rw [e.2]; exact ⟨_, _, _, _, _, _, _, _, _, by first | rfl | (simp only [diskT, pushD, cutD1, Int.toNat_natCast, List.map_append, List.map_cons, List.map_nil, DeedD.cs]; rfl)⟩⟩) | (have e := app_full (i := 1) h16 h21; exact ⟨by first | rfl | (rw [e.1]; done) | (rw [e.1]; rfl), by rw [e.2]; exact ⟨_, _, _, _, _, _, _, _, _, by first | rfl | (simp only [diskT, pushD, cutD1, Int.toNat_natCast, List.map_append, List.map_cons, List.map_nil, DeedD.cs]; rfl)⟩⟩) | (have e := app_go (i := 1) h16 h21 h27 h70; exact ⟨by first | rfl | (rw [e.1]; done) | (rw [e.1]; rfl), by rw [e.2]; exact ⟨_, _, _, _, _, _, _, _, _, by first | rfl | (simp only [diskT, pushD, cutD1, Int.toNat_natCast, List.map_append, List.map_cons, List.map_nil, DeedD.cs]; rfl)⟩⟩) | (have e := app_no (i := 1) h16 h21 h27 h70; exact ⟨by first | rfl | (rw [e.1]; done) | (rw [e.1]; rfl), by rw [e.2]; exact ⟨_, _, _, _, _, _, _, _, _, by first | rfl | (simp only [diskT, pushD, cutD1, Int.toNat_natCast, List.map_append, List.map_cons, List.map_nil, DeedD.cs]; rfl)⟩⟩)
        · (try simp only [decide_eq_true_eq, decide_eq_false_iff_not, beq_iff_eq, beq_eq_false_iff_ne, bne_iff_ne, bne_eq_false_iff_eq, Bool.not_eq_true', Bool.not_eq_false', ne_eq, Bool.not_eq_eq_eq_not, Bool.not_true, Bool.not_false, gt_iff_lt, ge_iff_le, Bool.not_not] at h70)
          refine AW.skip ?_
          change AW _ _ _ _ _
          refine AW.seq ?_
          refine AW.region ?_
          refine AL.r (rd_assign rfl rfl) ?_
          refine AL.nil ?_
          change AW _ _ _ _ _
          refine AW.ret ?_
          repeat with_reducible first | refine thenA_ret ?_ | refine inBlockA_ret ?_
          with_reducible first | refine retO_ret ?_ | refine retO_normal ?_
          refine reso1 rfl (Nat.le_of_ble_eq_true rfl) (by simp only [cleanS, cle_owM, cle_own, cle_nown, cle_obj, cle_off, cle_box, okC, liveA, List.take_succ_cons, List.take_zero, List.all_cons, List.all_nil, List.getElem?_cons_zero, List.getElem?_cons_succ, isO_owM, isO_own, isO_nown, TC.isB, beq_self_eq_true, Bool.and_self, Bool.and_true, ok1, ok2, List.map_cons, List.map_nil]) (ResV.tmp rfl) rfl (by simp only [cleanS, cle_owM, cle_own, cle_nown, cle_obj, cle_off, cle_box, okC, liveA, List.take_succ_cons, List.take_zero, List.all_cons, List.all_nil, List.getElem?_cons_zero, List.getElem?_cons_succ, isO_owM, isO_own, isO_nown, TC.isB, beq_self_eq_true, Bool.and_self, Bool.and_true, ok1, ok2, List.map_cons, List.map_nil]) ?_
          first | (have e := app_dark (b := b) (i := 1) h16; exact ⟨by first | rfl | (rw [e.1]; done) | (rw [e.1]; rfl), by rw [e.2]; exact ⟨_, _, _, _, _, _, _, _, _, by first | rfl | (simp only [diskT, pushD, cutD1, Int.toNat_natCast, List.map_append, List.map_cons, List.map_nil, DeedD.cs]; rfl)⟩⟩) | (have e := app_full (i := 1) h16 h21; exact ⟨by first | rfl | (rw [e.1]; done) | (rw [e.1]; rfl), by rw [e.2]; exact ⟨_, _, _, _, _, _, _, _, _, by first | rfl | (simp only [diskT, pushD, cutD1, Int.toNat_natCast, List.map_append, List.map_cons, List.map_nil, DeedD.cs]; rfl)⟩⟩) | (have e := app_go (i := 1) h16 h21 h27 h70; exact ⟨by first | rfl | (rw [e.1]; done) | (rw [e.1]; rfl), by rw [e.2]; exact ⟨_, _, _, _, _, _, _, _, _, by first | rfl | (simp only [diskT, pushD, cutD1, Int.toNat_natCast, List.map_append, List.map_cons, List.map_nil, DeedD.cs]; rfl)⟩⟩) | (have e := app_no (i := 1) h16 h21 h27 h70; exact ⟨by first | rfl | (rw [e.1]; done) | (rw [e.1]; rfl), by rw [e.2]; exact ⟨_, _, _, _, _, _, _, _, _, by first | rfl | (simp only [diskT, pushD, cutD1, Int.toNat_natCast, List.map_append, List.map_cons, List.map_nil, DeedD.cs]; rfl)⟩⟩)
      · (try simp only [decide_eq_true_eq, decide_eq_false_iff_not, beq_iff_eq, beq_eq_false_iff_ne, bne_iff_ne, bne_eq_false_iff_eq, Bool.not_eq_true', Bool.not_eq_false', ne_eq, Bool.not_eq_eq_eq_not, Bool.not_true, Bool.not_false, gt_iff_lt, ge_iff_le, Bool.not_not] at h27)
        refine AW.skip ?_
        change AW _ _ _ _ _
        refine AW.seq ?_
        refine AW.seq ?_
        refine AW.region ?_
        refine AL.r (rd_move rfl rfl) ?_
        refine AL.r (rd_nilc_bx rfl rfl rfl) ?_
        refine AL.r (rd_faddr_bx rfl fo_99_8 rfl rfl ⟨_, _, rfl⟩) ?_
        refine AL.r (rd_load_bx rfl ag_4 rfl rfl rfl) ?_
        refine AL.nil ?_
        change AW _ _ _ _ _
        refine AW.cond rfl (fun h70 => ?_) (fun h70 => ?_)
        · (try simp only [decide_eq_true_eq, decide_eq_false_iff_not, beq_iff_eq, beq_eq_false_iff_ne, bne_iff_ne, bne_eq_false_iff_eq, Bool.not_eq_true', Bool.not_eq_false', ne_eq, Bool.not_eq_eq_eq_not, Bool.not_true, Bool.not_false, gt_iff_lt, ge_iff_le, Bool.not_not] at h70)
          refine AW.seq ?_
          refine AW.region ?_
          refine AL.r (rd_assign rfl rfl) ?_
          refine AL.nil ?_
          change AW _ _ _ _ _
          refine AW.ret ?_
          repeat with_reducible first | refine thenA_ret ?_ | refine inBlockA_ret ?_
          with_reducible first | refine retO_ret ?_ | refine retO_normal ?_
          refine reso1 rfl (Nat.le_of_ble_eq_true rfl) (by simp only [cleanS, cle_owM, cle_own, cle_nown, cle_obj, cle_off, cle_box, okC, liveA, List.take_succ_cons, List.take_zero, List.all_cons, List.all_nil, List.getElem?_cons_zero, List.getElem?_cons_succ, isO_owM, isO_own, isO_nown, TC.isB, beq_self_eq_true, Bool.and_self, Bool.and_true, ok1, ok2, List.map_cons, List.map_nil]) (ResV.tmp rfl) rfl (by simp only [cleanS, cle_owM, cle_own, cle_nown, cle_obj, cle_off, cle_box, okC, liveA, List.take_succ_cons, List.take_zero, List.all_cons, List.all_nil, List.getElem?_cons_zero, List.getElem?_cons_succ, isO_owM, isO_own, isO_nown, TC.isB, beq_self_eq_true, Bool.and_self, Bool.and_true, ok1, ok2, List.map_cons, List.map_nil]) ?_
          first | (have e := app_dark (b := b) (i := 1) h16; exact ⟨by first | rfl | (rw [e.1]; done) | (rw [e.1]; rfl), by rw [e.2]; exact ⟨_, _, _, _, _, _, _, _, _, by first | rfl | (simp only [diskT, pushD, cutD1, Int.toNat_natCast, List.map_append, List.map_cons, List.map_nil, DeedD.cs]; rfl)⟩⟩) | (have e := app_full (i := 1) h16 h21; exact ⟨by first | rfl | (rw [e.1]; done) | (rw [e.1]; rfl), by rw [e.2]; exact ⟨_, _, _, _, _, _, _, _, _, by first | rfl | (simp only [diskT, pushD, cutD1, Int.toNat_natCast, List.map_append, List.map_cons, List.map_nil, DeedD.cs]; rfl)⟩⟩) | (have e := app_go (i := 1) h16 h21 h27 h70; exact ⟨by first | rfl | (rw [e.1]; done) | (rw [e.1]; rfl), by rw [e.2]; exact ⟨_, _, _, _, _, _, _, _, _, by first | rfl | (simp only [diskT, pushD, cutD1, Int.toNat_natCast, List.map_append, List.map_cons, List.map_nil, DeedD.cs]; rfl)⟩⟩) | (have e := app_no (i := 1) h16 h21 h27 h70; exact ⟨by first | rfl | (rw [e.1]; done) | (rw [e.1]; rfl), by rw [e.2]; exact ⟨_, _, _, _, _, _, _, _, _, by first | rfl | (simp only [diskT, pushD, cutD1, Int.toNat_natCast, List.map_append, List.map_cons, List.map_nil, DeedD.cs]; rfl)⟩⟩)
        · (try simp only [decide_eq_true_eq, decide_eq_false_iff_not, beq_iff_eq, beq_eq_false_iff_ne, bne_iff_ne, bne_eq_false_iff_eq, Bool.not_eq_true', Bool.not_eq_false', ne_eq, Bool.not_eq_eq_eq_not, Bool.not_true, Bool.not_false, gt_iff_lt, ge_iff_le, Bool.not_not] at h70)
          refine AW.skip ?_
          change AW _ _ _ _ _
          refine AW.seq ?_
          refine AW.region ?_
          refine AL.r (rd_assign rfl rfl) ?_
          refine AL.nil ?_
          change AW _ _ _ _ _
          refine AW.ret ?_
          repeat with_reducible first | refine thenA_ret ?_ | refine inBlockA_ret ?_
          with_reducible first | refine retO_ret ?_ | refine retO_normal ?_
          refine reso1 rfl (Nat.le_of_ble_eq_true rfl) (by simp only [cleanS, cle_owM, cle_own, cle_nown, cle_obj, cle_off, cle_box, okC, liveA, List.take_succ_cons, List.take_zero, List.all_cons, List.all_nil, List.getElem?_cons_zero, List.getElem?_cons_succ, isO_owM, isO_own, isO_nown, TC.isB, beq_self_eq_true, Bool.and_self, Bool.and_true, ok1, ok2, List.map_cons, List.map_nil]) (ResV.tmp rfl) rfl (by simp only [cleanS, cle_owM, cle_own, cle_nown, cle_obj, cle_off, cle_box, okC, liveA, List.take_succ_cons, List.take_zero, List.all_cons, List.all_nil, List.getElem?_cons_zero, List.getElem?_cons_succ, isO_owM, isO_own, isO_nown, TC.isB, beq_self_eq_true, Bool.and_self, Bool.and_true, ok1, ok2, List.map_cons, List.map_nil]) ?_
          first | (have e := app_dark (b := b) (i := 1) h16; exact ⟨by first | rfl | (rw [e.1]; done) | (rw [e.1]; rfl), by rw [e.2]; exact ⟨_, _, _, _, _, _, _, _, _, by first | rfl | (simp only [diskT, pushD, cutD1, Int.toNat_natCast, List.map_append, List.map_cons, List.map_nil, DeedD.cs]; rfl)⟩⟩) | (have e := app_full (i := 1) h16 h21; exact ⟨by first | rfl | (rw [e.1]; done) | (rw [e.1]; rfl), by rw [e.2]; exact ⟨_, _, _, _, _, _, _, _, _, by first | rfl | (simp only [diskT, pushD, cutD1, Int.toNat_natCast, List.map_append, List.map_cons, List.map_nil, DeedD.cs]; rfl)⟩⟩) | (have e := app_go (i := 1) h16 h21 h27 h70; exact ⟨by first | rfl | (rw [e.1]; done) | (rw [e.1]; rfl), by rw [e.2]; exact ⟨_, _, _, _, _, _, _, _, _, by first | rfl | (simp only [diskT, pushD, cutD1, Int.toNat_natCast, List.map_append, List.map_cons, List.map_nil, DeedD.cs]; rfl)⟩⟩) | (have e := app_no (i := 1) h16 h21 h27 h70; exact ⟨by first | rfl | (rw [e.1]; done) | (rw [e.1]; rfl), by rw [e.2]; exact ⟨_, _, _, _, _, _, _, _, _, by first | rfl | (simp only [diskT, pushD, cutD1, Int.toNat_natCast, List.map_append, List.map_cons, List.map_nil, DeedD.cs]; rfl)⟩⟩)
theorem cut_c1 (n : Int) (h : d.Fit) : ACo Try.prog 26 [.bx 0 g 0, .sc (.int .i64 1), .sc (.int .i64 n)] (diskT g g1 g2 g3 g4 g5 g6 g7 g8 g9 d)
    (fun y os' => y = .sc (.int .i64 (cutR d 1 n)) ∧ DiskAt g (cutD d 1 n) os') := by
  have hbn := burnN_le (n := 1) h (by omega)
  have hw := h.w
  have hnn := h.n 1
  have hqq := h.q
  refine ACo.of (t0 := [.bx 0 g 0, .sc (.int .i64 1), .sc (.int .i64 n), AV.sc undef, AV.sc undef, AV.sc undef, AV.sc undef, AV.sc undef, AV.sc undef, AV.sc undef, AV.sc undef, AV.sc undef, AV.sc undef, AV.sc undef, AV.sc undef, AV.sc undef, AV.sc undef, AV.sc undef, AV.sc undef, AV.sc undef, AV.sc undef, AV.sc undef, AV.sc undef, AV.sc undef, AV.sc undef, AV.sc undef, AV.sc undef, AV.sc undef, AV.sc undef, AV.sc undef, AV.sc undef, AV.sc undef, AV.sc undef, AV.sc undef, AV.sc undef, AV.sc undef, AV.sc undef, AV.sc undef, AV.sc undef, AV.sc undef, AV.sc undef, AV.sc undef, AV.sc undef, AV.sc undef, AV.sc undef, AV.sc undef, AV.sc undef, AV.sc undef, AV.sc undef, AV.sc undef, AV.sc undef, AV.sc undef, AV.sc undef, AV.sc undef, AV.sc undef, AV.sc undef, AV.sc undef, AV.sc undef, AV.sc undef, AV.sc undef, AV.sc undef, AV.sc undef, AV.sc undef, AV.sc undef, AV.sc undef, AV.sc undef, AV.sc undef, AV.sc undef]) (st0 := [⟨g, .box 99 [.sc (.int .i64 d.room), .ow 1 g1, .ow 2 g2, .ow 3 g3, .ow 4 g4, .ow 5 g5, .ow 6 g6, .ow 7 g7, .ow 8 g8, .ow 9 g9, .sc (.int .i64 d.waits), .sc (.int .i64 d.done), .sc (.bool d.fused), .sc (.int .i64 d.fuse), .sc (.bool d.dark)]⟩, ⟨g1, owM (d.nf 0) 5 1 (byA (d.n 0))⟩, ⟨g2, owM (d.nf 1) 5 1 (byA (d.n 1))⟩, ⟨g3, owM (d.nf 2) 5 1 (byA (d.n 2))⟩, ⟨g4, owM (d.nf 3) 5 1 (byA (d.n 3))⟩, ⟨g5, owM (d.lf 0) 5 1 (byA (d.l 0))⟩, ⟨g6, owM (d.lf 1) 5 1 (byA (d.l 1))⟩, ⟨g7, owM (d.lf 2) 5 1 (byA (d.l 2))⟩, ⟨g8, owM (d.lf 3) 5 1 (byA (d.l 3))⟩, ⟨g9, owM true 102 4 (d.q.map DeedD.cs)⟩, TK.mk 0 .off, TK.mk 0 .off]) 2 Try.func26 rfl rfl rfl 10 rfl ?_
  refine AW.seq ?_
  refine AW.region ?_
  refine AL.r (rd_assign rfl rfl) ?_
  refine AL.nil ?_
  change AW _ _ _ _ _
  refine AW.seq ?_
  refine AW.seq ?_
  refine AW.region ?_
  refine AL.r (rd_move rfl rfl) ?_
  refine AL.r (rd_peq_bx rfl pt_25 rfl rfl rfl) ?_
  refine AL.nil ?_
  change AW _ _ _ _ _
  refine AW.cond_f rfl ?_
  refine AW.skip ?_
  change AW _ _ _ _ _
  refine AW.seq ?_
  refine AW.seq ?_
  refine AW.region ?_
  refine AL.r (rd_move rfl rfl) ?_
  refine AL.op rfl (AOpB.op (op_call (right_in (by decide)) rfl (by kernel_rfl) rfl (none) ?_))
  rintro r rfl
  refine AL.no ?_
  refine AL.r (rd_un rfl rfl (fun _ => rfl)) ?_
  refine AL.r (rd_move rfl rfl) ?_
  refine AL.ro (rd_move rfl rfl) ?_
  refine AL.ro (rd_bin rfl rfl rfl (fun _ => rfl)) ?_
  refine AL.r (rd_pick_f rfl rfl rfl) ?_
  refine AL.r (rd_move rfl rfl) ?_
  refine AL.fork (d := 16) rfl (fun h16 => ?_) (fun h16 => ?_)
  · (try simp only [decide_eq_true_eq, decide_eq_false_iff_not, beq_iff_eq, beq_eq_false_iff_ne, bne_iff_ne, bne_eq_false_iff_eq, Bool.not_eq_true', Bool.not_eq_false', ne_eq, Bool.not_eq_eq_eq_not, Bool.not_true, Bool.not_false, gt_iff_lt, ge_iff_le, Bool.not_not] at h16)
    refine AL.n ?_
    refine AL.rf ?_
    refine AL.rf ?_
    refine AL.rf ?_
    refine AL.rf ?_
    refine AL.rf ?_
    refine AL.rf ?_
    refine AL.rf ?_
    refine AL.rf ?_
    refine AL.rf ?_
    refine AL.r (rd_pick_t rfl rfl rfl) ?_
    refine AL.nil ?_
    change AW _ _ _ _ _
    refine AW.cond_t rfl ?_
    refine AW.seq ?_
    refine AW.region ?_
    refine AL.r (rd_assign rfl rfl) ?_
    refine AL.nil ?_
    change AW _ _ _ _ _
    refine AW.ret ?_
    repeat with_reducible first | refine thenA_ret ?_ | refine inBlockA_ret ?_
    with_reducible first | refine retO_ret ?_ | refine retO_normal ?_
    refine reso1 rfl (Nat.le_of_ble_eq_true rfl) (by simp only [cleanS, cle_owM, cle_own, cle_nown, cle_obj, cle_off, cle_box, okC, liveA, List.take_succ_cons, List.take_zero, List.all_cons, List.all_nil, List.getElem?_cons_zero, List.getElem?_cons_succ, isO_owM, isO_own, isO_nown, TC.isB, beq_self_eq_true, Bool.and_self, Bool.and_true, ok1, ok2, List.map_cons, List.map_nil]) (ResV.tmp rfl) rfl (by simp only [cleanS, cle_owM, cle_own, cle_nown, cle_obj, cle_off, cle_box, okC, liveA, List.take_succ_cons, List.take_zero, List.all_cons, List.all_nil, List.getElem?_cons_zero, List.getElem?_cons_succ, isO_owM, isO_own, isO_nown, TC.isB, beq_self_eq_true, Bool.and_self, Bool.and_true, ok1, ok2, List.map_cons, List.map_nil]) ?_
    first | (have e := cut_arg (d := d) (i := 1) (.inl h16); exact ⟨by first | rfl | (rw [e.1]; done) | (rw [e.1]; rfl), by rw [e.2]; exact ⟨_, _, _, _, _, _, _, _, _, by first | rfl | (simp only [diskT, pushD, cutD1, Int.toNat_natCast, List.map_append, List.map_cons, List.map_nil, DeedD.cs]; rfl)⟩⟩) | (have e := cut_arg (d := d) (i := 1) (.inr h26); exact ⟨by first | rfl | (rw [e.1]; done) | (rw [e.1]; rfl), by rw [e.2]; exact ⟨_, _, _, _, _, _, _, _, _, by first | rfl | (simp only [diskT, pushD, cutD1, Int.toNat_natCast, List.map_append, List.map_cons, List.map_nil, DeedD.cs]; rfl)⟩⟩) | (have e := cut_dark (d := d) (i := 1) h16 h26 h31; exact ⟨by first | rfl | (rw [e.1]; done) | (rw [e.1]; rfl), by rw [e.2]; exact ⟨_, _, _, _, _, _, _, _, _, by first | rfl | (simp only [diskT, pushD, cutD1, Int.toNat_natCast, List.map_append, List.map_cons, List.map_nil, DeedD.cs]; rfl)⟩⟩) | (have e := cut_burn (d := d) (i := 1) h16 h26 h31 h35; exact ⟨by first | rfl | (rw [e.1]; done) | (rw [e.1]; rfl), by rw [e.2]; exact ⟨_, _, _, _, _, _, _, _, _, by first | rfl | (simp only [diskT, pushD, cutD1, Int.toNat_natCast, List.map_append, List.map_cons, List.map_nil, DeedD.cs]; rfl)⟩⟩) | (have e := cut_go (d := d) (i := 1) h16 h26 h31 h35; exact ⟨by first | rfl | (rw [e.1]; done) | (rw [e.1]; rfl), by rw [e.2]; exact ⟨_, _, _, _, _, _, _, _, _, by first | rfl | (simp only [diskT, pushD, cutD1, Int.toNat_natCast, List.map_append, List.map_cons, List.map_nil, DeedD.cs]; rfl)⟩⟩)
  · (try simp only [decide_eq_true_eq, decide_eq_false_iff_not, beq_iff_eq, beq_eq_false_iff_ne, bne_iff_ne, bne_eq_false_iff_eq, Bool.not_eq_true', Bool.not_eq_false', ne_eq, Bool.not_eq_eq_eq_not, Bool.not_true, Bool.not_false, gt_iff_lt, ge_iff_le, Bool.not_not] at h16)
    refine AL.n ?_
    refine AL.ro (rd_move rfl rfl) ?_
    refine AL.ro (rd_move rfl rfl) ?_
    refine AL.ro (rd_move rfl rfl) ?_
    refine AL.ro (rd_nilc_bx rfl rfl rfl) ?_
    refine AL.ro (rd_faddr_bx rfl fo_99_1 rfl rfl ⟨_, _, rfl⟩) ?_
    refine AL.ro (rd_iaddr_bx (i := 1) rfl ar_37 rfl rfl rfl (by first | rfl | omega) (by decide)) ?_
    refine AL.ro (rd_load_bx rfl ag_29 rfl rfl rfl) ?_
    refine AL.ro (rd_len_owM rfl el_29 rfl rfl) ?_
    refine AL.ro (rd_bin rfl rfl rfl (fun _ => rfl)) ?_
    refine AL.r (rd_pick_f rfl rfl rfl) ?_
    refine AL.nil ?_
    change AW _ _ _ _ _
    refine AW.cond rfl (fun h26 => ?_) (fun h26 => ?_)
    · (try simp only [decide_eq_true_eq, decide_eq_false_iff_not, beq_iff_eq, beq_eq_false_iff_ne, bne_iff_ne, bne_eq_false_iff_eq, Bool.not_eq_true', Bool.not_eq_false', ne_eq, Bool.not_eq_eq_eq_not, Bool.not_true, Bool.not_false, gt_iff_lt, ge_iff_le, Bool.not_not] at h26)
      refine AW.seq ?_
      refine AW.region ?_
      refine AL.r (rd_assign rfl rfl) ?_
      refine AL.nil ?_
      change AW _ _ _ _ _
      refine AW.ret ?_
      repeat with_reducible first | refine thenA_ret ?_ | refine inBlockA_ret ?_
      with_reducible first | refine retO_ret ?_ | refine retO_normal ?_
      refine reso1 rfl (Nat.le_of_ble_eq_true rfl) (by simp only [cleanS, cle_owM, cle_own, cle_nown, cle_obj, cle_off, cle_box, okC, liveA, List.take_succ_cons, List.take_zero, List.all_cons, List.all_nil, List.getElem?_cons_zero, List.getElem?_cons_succ, isO_owM, isO_own, isO_nown, TC.isB, beq_self_eq_true, Bool.and_self, Bool.and_true, ok1, ok2, List.map_cons, List.map_nil]) (ResV.tmp rfl) rfl (by simp only [cleanS, cle_owM, cle_own, cle_nown, cle_obj, cle_off, cle_box, okC, liveA, List.take_succ_cons, List.take_zero, List.all_cons, List.all_nil, List.getElem?_cons_zero, List.getElem?_cons_succ, isO_owM, isO_own, isO_nown, TC.isB, beq_self_eq_true, Bool.and_self, Bool.and_true, ok1, ok2, List.map_cons, List.map_nil]) ?_
      first | (have e := cut_arg (d := d) (i := 1) (.inl h16); exact ⟨by first | rfl | (rw [e.1]; done) | (rw [e.1]; rfl), by rw [e.2]; exact ⟨_, _, _, _, _, _, _, _, _, by first | rfl | (simp only [diskT, pushD, cutD1, Int.toNat_natCast, List.map_append, List.map_cons, List.map_nil, DeedD.cs]; rfl)⟩⟩) | (have e := cut_arg (d := d) (i := 1) (.inr h26); exact ⟨by first | rfl | (rw [e.1]; done) | (rw [e.1]; rfl), by rw [e.2]; exact ⟨_, _, _, _, _, _, _, _, _, by first | rfl | (simp only [diskT, pushD, cutD1, Int.toNat_natCast, List.map_append, List.map_cons, List.map_nil, DeedD.cs]; rfl)⟩⟩) | (have e := cut_dark (d := d) (i := 1) h16 h26 h31; exact ⟨by first | rfl | (rw [e.1]; done) | (rw [e.1]; rfl), by rw [e.2]; exact ⟨_, _, _, _, _, _, _, _, _, by first | rfl | (simp only [diskT, pushD, cutD1, Int.toNat_natCast, List.map_append, List.map_cons, List.map_nil, DeedD.cs]; rfl)⟩⟩) | (have e := cut_burn (d := d) (i := 1) h16 h26 h31 h35; exact ⟨by first | rfl | (rw [e.1]; done) | (rw [e.1]; rfl), by rw [e.2]; exact ⟨_, _, _, _, _, _, _, _, _, by first | rfl | (simp only [diskT, pushD, cutD1, Int.toNat_natCast, List.map_append, List.map_cons, List.map_nil, DeedD.cs]; rfl)⟩⟩) | (have e := cut_go (d := d) (i := 1) h16 h26 h31 h35; exact ⟨by first | rfl | (rw [e.1]; done) | (rw [e.1]; rfl), by rw [e.2]; exact ⟨_, _, _, _, _, _, _, _, _, by first | rfl | (simp only [diskT, pushD, cutD1, Int.toNat_natCast, List.map_append, List.map_cons, List.map_nil, DeedD.cs]; rfl)⟩⟩)
    · (try simp only [decide_eq_true_eq, decide_eq_false_iff_not, beq_iff_eq, beq_eq_false_iff_ne, bne_iff_ne, bne_eq_false_iff_eq, Bool.not_eq_true', Bool.not_eq_false', ne_eq, Bool.not_eq_eq_eq_not, Bool.not_true, Bool.not_false, gt_iff_lt, ge_iff_le, Bool.not_not] at h26)
      refine AW.skip ?_
      change AW _ _ _ _ _
      refine AW.seq ?_
      refine AW.seq ?_
      refine AW.region ?_
      obtain ⟨m, rfl⟩ : ∃ m : Nat, n = (m : Int) := ⟨n.toNat, (by omega)⟩
      refine AL.r (rd_move rfl rfl) ?_
      refine AL.r (rd_nilc_bx rfl rfl rfl) ?_
      refine AL.r (rd_faddr_bx rfl fo_99_8 rfl rfl ⟨_, _, rfl⟩) ?_
      refine AL.r (rd_load_bx rfl ag_4 rfl rfl rfl) ?_
      refine AL.r (rd_move rfl rfl) ?_
      refine AL.fork (d := 31) rfl (fun h31 => ?_) (fun h31 => ?_)
      · (try simp only [decide_eq_true_eq, decide_eq_false_iff_not, beq_iff_eq, beq_eq_false_iff_ne, bne_iff_ne, bne_eq_false_iff_eq, Bool.not_eq_true', Bool.not_eq_false', ne_eq, Bool.not_eq_eq_eq_not, Bool.not_true, Bool.not_false, gt_iff_lt, ge_iff_le, Bool.not_not] at h31)
        refine AL.n ?_
        refine AL.rf ?_
        refine AL.rf ?_
        refine AL.rf ?_
        refine AL.r (rd_pick_t rfl rfl rfl) ?_
        refine AL.nil ?_
        change AW _ _ _ _ _
        refine AW.cond_t rfl ?_
        refine AW.seq ?_
        refine AW.region ?_
        refine AL.r (rd_assign rfl rfl) ?_
        refine AL.nil ?_
        change AW _ _ _ _ _
        refine AW.ret ?_
        repeat with_reducible first | refine thenA_ret ?_ | refine inBlockA_ret ?_
        with_reducible first | refine retO_ret ?_ | refine retO_normal ?_
        refine reso1 rfl (Nat.le_of_ble_eq_true rfl) (by simp only [cleanS, cle_owM, cle_own, cle_nown, cle_obj, cle_off, cle_box, okC, liveA, List.take_succ_cons, List.take_zero, List.all_cons, List.all_nil, List.getElem?_cons_zero, List.getElem?_cons_succ, isO_owM, isO_own, isO_nown, TC.isB, beq_self_eq_true, Bool.and_self, Bool.and_true, ok1, ok2, List.map_cons, List.map_nil]) (ResV.tmp rfl) rfl (by simp only [cleanS, cle_owM, cle_own, cle_nown, cle_obj, cle_off, cle_box, okC, liveA, List.take_succ_cons, List.take_zero, List.all_cons, List.all_nil, List.getElem?_cons_zero, List.getElem?_cons_succ, isO_owM, isO_own, isO_nown, TC.isB, beq_self_eq_true, Bool.and_self, Bool.and_true, ok1, ok2, List.map_cons, List.map_nil]) ?_
        first | (have e := cut_arg (d := d) (i := 1) (.inl h16); exact ⟨by first | rfl | (rw [e.1]; done) | (rw [e.1]; rfl), by rw [e.2]; exact ⟨_, _, _, _, _, _, _, _, _, by first | rfl | (simp only [diskT, pushD, cutD1, Int.toNat_natCast, List.map_append, List.map_cons, List.map_nil, DeedD.cs]; rfl)⟩⟩) | (have e := cut_arg (d := d) (i := 1) (.inr h26); exact ⟨by first | rfl | (rw [e.1]; done) | (rw [e.1]; rfl), by rw [e.2]; exact ⟨_, _, _, _, _, _, _, _, _, by first | rfl | (simp only [diskT, pushD, cutD1, Int.toNat_natCast, List.map_append, List.map_cons, List.map_nil, DeedD.cs]; rfl)⟩⟩) | (have e := cut_dark (d := d) (i := 1) h16 h26 h31; exact ⟨by first | rfl | (rw [e.1]; done) | (rw [e.1]; rfl), by rw [e.2]; exact ⟨_, _, _, _, _, _, _, _, _, by first | rfl | (simp only [diskT, pushD, cutD1, Int.toNat_natCast, List.map_append, List.map_cons, List.map_nil, DeedD.cs]; rfl)⟩⟩) | (have e := cut_burn (d := d) (i := 1) h16 h26 h31 h35; exact ⟨by first | rfl | (rw [e.1]; done) | (rw [e.1]; rfl), by rw [e.2]; exact ⟨_, _, _, _, _, _, _, _, _, by first | rfl | (simp only [diskT, pushD, cutD1, Int.toNat_natCast, List.map_append, List.map_cons, List.map_nil, DeedD.cs]; rfl)⟩⟩) | (have e := cut_go (d := d) (i := 1) h16 h26 h31 h35; exact ⟨by first | rfl | (rw [e.1]; done) | (rw [e.1]; rfl), by rw [e.2]; exact ⟨_, _, _, _, _, _, _, _, _, by first | rfl | (simp only [diskT, pushD, cutD1, Int.toNat_natCast, List.map_append, List.map_cons, List.map_nil, DeedD.cs]; rfl)⟩⟩)
      · (try simp only [decide_eq_true_eq, decide_eq_false_iff_not, beq_iff_eq, beq_eq_false_iff_ne, bne_iff_ne, bne_eq_false_iff_eq, Bool.not_eq_true', Bool.not_eq_false', ne_eq, Bool.not_eq_eq_eq_not, Bool.not_true, Bool.not_false, gt_iff_lt, ge_iff_le, Bool.not_not] at h31)
        refine AL.n ?_
        refine AL.ro (rd_move rfl rfl) ?_
        refine AL.on rfl rfl rfl (op_callo (burn_c d g g1 g2 g3 g4 g5 g6 g7 g8 g9 1 h.fuse (by omega)) rfl (by kernel_rfl) [0, 1, 2, 3, 4, 5, 6, 7, 8, 9] (by decide) (by simp only [diskT, List.map_cons, List.map_nil, renT, renC_owM, renC_box, renC_own, renC_nown, renC_obj, renC_off, ren0, List.getD_cons_zero, List.getD_cons_succ]; exact ⟨rfl, rfl, rfl, rfl, rfl, rfl, rfl, rfl, rfl, rfl, trivial⟩) rfl (by simp only [diskT, cleanS, cle_owM, cle_own, cle_nown, cle_obj, cle_off, cle_box, okC, liveA, List.take_succ_cons, List.take_zero, List.all_cons, List.all_nil, List.getElem?_cons_zero, List.getElem?_cons_succ, isO_owM, isO_own, isO_nown, TC.isB, beq_self_eq_true, Bool.and_self, Bool.and_true, ok1, ok2, List.map_cons, List.map_nil]) (by simp only [diskT, cleanS, cle_owM, cle_own, cle_nown, cle_obj, cle_off, cle_box, okC, liveA, List.take_succ_cons, List.take_zero, List.all_cons, List.all_nil, List.getElem?_cons_zero, List.getElem?_cons_succ, isO_owM, isO_own, isO_nown, TC.isB, beq_self_eq_true, Bool.and_self, Bool.and_true, ok1, ok2, List.map_cons, List.map_nil]) ?_)
        rintro y os' ⟨rfl, rfl⟩
        refine AL.no ?_ (by (try simp only [diskT, putA, evA, List.getD_cons_zero, List.getD_cons_succ, List.set_cons_zero, List.set_cons_succ, List.length_map, KR, splA, List.map_cons, List.map_nil, List.length_append, List.length_cons, List.length_nil, List.drop_zero, csS_len, csS_take, csS_drop, csS_app, byA_len, byA_take, byA_drop, byA_app, ← List.map_take, ← List.map_drop, ← List.map_append, List.take_succ_cons, List.take_zero, List.drop_succ_cons, List.cons_append, List.nil_append, Nat.zero_add, Nat.reduceAdd, Nat.reduceMul, Nat.add_zero, Nat.mul_one, putT, renT, renC_owM, renC_box, renC_own, renC_nown, renC_obj, renC_off, ren2, ren1, ren0, ok1, ok2]); (try rfl)) (by (try simp only [diskT, putA, evA, List.getD_cons_zero, List.getD_cons_succ, List.set_cons_zero, List.set_cons_succ, List.length_map, KR, splA, List.map_cons, List.map_nil, List.length_append, List.length_cons, List.length_nil, List.drop_zero, csS_len, csS_take, csS_drop, csS_app, byA_len, byA_take, byA_drop, byA_app, ← List.map_take, ← List.map_drop, ← List.map_append, List.take_succ_cons, List.take_zero, List.drop_succ_cons, List.cons_append, List.nil_append, Nat.zero_add, Nat.reduceAdd, Nat.reduceMul, Nat.add_zero, Nat.mul_one, putT, renT, renC_owM, renC_box, renC_own, renC_nown, renC_obj, renC_off, ren2, ren1, ren0, ok1, ok2]); (try rfl))
        refine AL.ro (rd_bin rfl rfl rfl (fun _ => rfl)) ?_
        refine AL.r (rd_pick_f rfl rfl rfl) ?_
        refine AL.nil ?_
        change AW _ _ _ _ _
        refine AW.cond rfl (fun h35 => ?_) (fun h35 => ?_)
        · (try simp only [decide_eq_true_eq, decide_eq_false_iff_not, beq_iff_eq, beq_eq_false_iff_ne, bne_iff_ne, bne_eq_false_iff_eq, Bool.not_eq_true', Bool.not_eq_false', ne_eq, Bool.not_eq_eq_eq_not, Bool.not_true, Bool.not_false, gt_iff_lt, ge_iff_le, Bool.not_not] at h35)
          refine AW.seq ?_
          refine AW.region ?_
          refine AL.r (rd_assign rfl rfl) ?_
          refine AL.nil ?_
          change AW _ _ _ _ _
          refine AW.ret ?_
          repeat with_reducible first | refine thenA_ret ?_ | refine inBlockA_ret ?_
          with_reducible first | refine retO_ret ?_ | refine retO_normal ?_
          refine reso1 rfl (Nat.le_of_ble_eq_true rfl) (by simp only [cleanS, cle_owM, cle_own, cle_nown, cle_obj, cle_off, cle_box, okC, liveA, List.take_succ_cons, List.take_zero, List.all_cons, List.all_nil, List.getElem?_cons_zero, List.getElem?_cons_succ, isO_owM, isO_own, isO_nown, TC.isB, beq_self_eq_true, Bool.and_self, Bool.and_true, ok1, ok2, List.map_cons, List.map_nil]) (ResV.tmp rfl) rfl (by simp only [cleanS, cle_owM, cle_own, cle_nown, cle_obj, cle_off, cle_box, okC, liveA, List.take_succ_cons, List.take_zero, List.all_cons, List.all_nil, List.getElem?_cons_zero, List.getElem?_cons_succ, isO_owM, isO_own, isO_nown, TC.isB, beq_self_eq_true, Bool.and_self, Bool.and_true, ok1, ok2, List.map_cons, List.map_nil]) ?_
          first | (have e := cut_arg (d := d) (i := 1) (.inl h16); exact ⟨by first | rfl | (rw [e.1]; done) | (rw [e.1]; rfl), by rw [e.2]; exact ⟨_, _, _, _, _, _, _, _, _, by first | rfl | (simp only [diskT, pushD, cutD1, Int.toNat_natCast, List.map_append, List.map_cons, List.map_nil, DeedD.cs]; rfl)⟩⟩) | (have e := cut_arg (d := d) (i := 1) (.inr h26); exact ⟨by first | rfl | (rw [e.1]; done) | (rw [e.1]; rfl), by rw [e.2]; exact ⟨_, _, _, _, _, _, _, _, _, by first | rfl | (simp only [diskT, pushD, cutD1, Int.toNat_natCast, List.map_append, List.map_cons, List.map_nil, DeedD.cs]; rfl)⟩⟩) | (have e := cut_dark (d := d) (i := 1) h16 h26 h31; exact ⟨by first | rfl | (rw [e.1]; done) | (rw [e.1]; rfl), by rw [e.2]; exact ⟨_, _, _, _, _, _, _, _, _, by first | rfl | (simp only [diskT, pushD, cutD1, Int.toNat_natCast, List.map_append, List.map_cons, List.map_nil, DeedD.cs]; rfl)⟩⟩) | (have e := cut_burn (d := d) (i := 1) h16 h26 h31 h35; exact ⟨by first | rfl | (rw [e.1]; done) | (rw [e.1]; rfl), by rw [e.2]; exact ⟨_, _, _, _, _, _, _, _, _, by first | rfl | (simp only [diskT, pushD, cutD1, Int.toNat_natCast, List.map_append, List.map_cons, List.map_nil, DeedD.cs]; rfl)⟩⟩) | (have e := cut_go (d := d) (i := 1) h16 h26 h31 h35; exact ⟨by first | rfl | (rw [e.1]; done) | (rw [e.1]; rfl), by rw [e.2]; exact ⟨_, _, _, _, _, _, _, _, _, by first | rfl | (simp only [diskT, pushD, cutD1, Int.toNat_natCast, List.map_append, List.map_cons, List.map_nil, DeedD.cs]; rfl)⟩⟩)
        · (try simp only [decide_eq_true_eq, decide_eq_false_iff_not, beq_iff_eq, beq_eq_false_iff_ne, bne_iff_ne, bne_eq_false_iff_eq, Bool.not_eq_true', Bool.not_eq_false', ne_eq, Bool.not_eq_eq_eq_not, Bool.not_true, Bool.not_false, gt_iff_lt, ge_iff_le, Bool.not_not] at h35)
          refine AW.skip ?_
          change AW _ _ _ _ _
          refine AW.seq ?_
          apply AW.drawS (by kernel_rfl)
          · skip
            refine ADA.r 0 rfl (ARdP.a (rdP_move rfl rfl)) rfl ?_
            refine ADA.r 1 rfl (ARdP.a (rdP_move rfl rfl)) rfl ?_
            refine ADA.r 2 rfl (ARdP.a (rdP_move rfl rfl)) rfl ?_
            refine ADA.r 3 rfl (ARdP.a (rdP_move rfl rfl)) rfl ?_
            refine ADA.r 4 rfl (ARdP.a (rdP_nilc_bx rfl rfl rfl)) rfl ?_
            refine ADA.r 5 rfl (ARdP.a (rdP_faddr_bx rfl fo_99_1 rfl rfl ⟨_, _, rfl⟩)) rfl ?_
            refine ADA.r 6 rfl (ARdP.a (rdP_iaddr_bx (i := 1) rfl ar_37 rfl rfl rfl (by first | rfl | omega) (by decide))) rfl ?_
            refine ADA.r 8 rfl (ARdP.a (rdP_move rfl rfl)) rfl ?_
            refine ADA.r 10 rfl (ARdP.a (rdP_nilc_bx rfl rfl rfl)) rfl ?_
            refine ADA.r 11 rfl (ARdP.a (rdP_faddr_bx rfl fo_99_1 rfl rfl ⟨_, _, rfl⟩)) rfl ?_
            refine ADA.b ?_
            refine ADB.move 7 rfl (by kernel_rfl) rfl (AOpB.op (ARd.opB (rd_load_bx rfl ag_29 rfl rfl rfl) ?_))
            refine ADB.n ?_
            refine ADB.move 9 rfl (by kernel_rfl) rfl (AOpB.op (op_sliceM (n := m) rfl el_29 rfl rfl rfl rfl (by simp only [byA_len, burnD]; omega) ?_))
            refine ADB.n ?_
            refine ADB.r 12 rfl (rdP_iaddr_bx (i := 1) rfl ar_37 rfl rfl rfl (by first | rfl | omega) (by decide)) rfl ?_
            refine ADB.move 13 rfl (by kernel_rfl) rfl (op_store rfl rfl rfl rfl rfl (by first | exact live_owM rfl | exact live_own rfl | exact live_nown rfl | rfl) sz_29 (Nat.le_of_ble_eq_true rfl) ?_)
            refine ADB.n ?_
            refine ADB.done (by kernel_rfl) ?_
            exact ⟨rfl, rfl⟩
          skip
          change AW _ _ _ _ _
          refine AW.seq ?_
          refine AW.region ?_
          refine AL.r (rd_move rfl rfl) ?_
          refine AL.r (rd_move rfl rfl) ?_
          refine AL.r (rd_nilc_bx rfl rfl rfl) ?_
          refine AL.r (rd_faddr_bx rfl fo_99_3 rfl rfl ⟨_, _, rfl⟩) ?_
          refine AL.r (rd_load_bx rfl ag_97 rfl rfl rfl) ?_
          refine AL.r (rd_move rfl rfl) ?_
          refine AL.r (rd_move rfl rfl) ?_
          refine AL.r (rd_build rfl pl_102 ze_102 rfl rfl) ?_
          refine AL.op rfl (AOpB.op (bs_set rfl ap_97 ze_102 rfl rfl ?_))
          refine AL.no ?_
          refine AL.op rfl (op_appendM rfl ap_97 rfl rfl (src_sl rfl (by first | exact csS_one | exact byA_one | (intro cs hcs; obtain rfl := List.mem_singleton.1 hcs; rfl) | (intro cs hcs; obtain ⟨_, _, rfl⟩ := List.mem_map.1 hcs; rfl) | simp)) (by simp [burnD]; omega) (by simp [burnD]; omega) ?_)
          refine AL.no ?_
          refine AL.r (rd_nilc_bx rfl rfl rfl) ?_
          refine AL.r (rd_faddr_bx rfl fo_99_3 rfl rfl ⟨_, _, rfl⟩) ?_
          refine AL.op rfl (op_store rfl rfl rfl rfl rfl (by first | exact live_owM rfl | exact live_own rfl | exact live_nown rfl | rfl) sz_97 (Nat.le_of_ble_eq_true rfl) ?_)
          refine AL.no ?_
          refine AL.nil ?_
          change AW _ _ _ _ _
          refine AW.seq ?_
          refine AW.region ?_
          refine AL.r (rd_move rfl rfl) ?_
          refine AL.r (rd_nilc_bx rfl rfl rfl) ?_
          refine AL.r (rd_faddr_bx rfl fo_99_4 rfl rfl ⟨_, _, rfl⟩) ?_
          refine AL.r (rd_load_bx rfl ag_3 rfl rfl rfl) ?_
          refine AL.r (rd_arith_add rfl rfl rfl (IntWalk.i64_in _ (by simp only [burnD]; omega))) ?_
          refine AL.r (rd_nilc_bx rfl rfl rfl) ?_
          refine AL.r (rd_faddr_bx rfl fo_99_4 rfl rfl ⟨_, _, rfl⟩) ?_
          refine AL.op rfl (op_store rfl rfl rfl rfl rfl rfl sz_3 (Nat.le_of_ble_eq_true rfl) ?_)
          refine AL.no ?_
          refine AL.nil ?_
          change AW _ _ _ _ _
          refine AW.seq ?_
          refine AW.region ?_
          refine AL.r (rd_assign rfl rfl) ?_
          refine AL.nil ?_
          change AW _ _ _ _ _
          refine AW.ret ?_
          repeat with_reducible first | refine thenA_ret ?_ | refine inBlockA_ret ?_
          with_reducible first | refine retO_ret ?_ | refine retO_normal ?_
          refine reso1 rfl (Nat.le_of_ble_eq_true rfl) (by simp only [cleanS, cle_owM, cle_own, cle_nown, cle_obj, cle_off, cle_box, okC, liveA, List.take_succ_cons, List.take_zero, List.all_cons, List.all_nil, List.getElem?_cons_zero, List.getElem?_cons_succ, isO_owM, isO_own, isO_nown, TC.isB, beq_self_eq_true, Bool.and_self, Bool.and_true, ok1, ok2, List.map_cons, List.map_nil]) (ResV.tmp rfl) rfl (by simp only [cleanS, cle_owM, cle_own, cle_nown, cle_obj, cle_off, cle_box, okC, liveA, List.take_succ_cons, List.take_zero, List.all_cons, List.all_nil, List.getElem?_cons_zero, List.getElem?_cons_succ, isO_owM, isO_own, isO_nown, TC.isB, beq_self_eq_true, Bool.and_self, Bool.and_true, ok1, ok2, List.map_cons, List.map_nil]) ?_
          first | (have e := cut_arg (d := d) (i := 1) (.inl h16); exact ⟨by first | rfl | (rw [e.1]; done) | (rw [e.1]; rfl), by rw [e.2]; exact ⟨_, _, _, _, _, _, _, _, _, by first | rfl | (simp only [diskT, pushD, cutD1, Int.toNat_natCast, List.map_append, List.map_cons, List.map_nil, DeedD.cs]; rfl)⟩⟩) | (have e := cut_arg (d := d) (i := 1) (.inr h26); exact ⟨by first | rfl | (rw [e.1]; done) | (rw [e.1]; rfl), by rw [e.2]; exact ⟨_, _, _, _, _, _, _, _, _, by first | rfl | (simp only [diskT, pushD, cutD1, Int.toNat_natCast, List.map_append, List.map_cons, List.map_nil, DeedD.cs]; rfl)⟩⟩) | (have e := cut_dark (d := d) (i := 1) h16 h26 h31; exact ⟨by first | rfl | (rw [e.1]; done) | (rw [e.1]; rfl), by rw [e.2]; exact ⟨_, _, _, _, _, _, _, _, _, by first | rfl | (simp only [diskT, pushD, cutD1, Int.toNat_natCast, List.map_append, List.map_cons, List.map_nil, DeedD.cs]; rfl)⟩⟩) | (have e := cut_burn (d := d) (i := 1) h16 h26 h31 h35; exact ⟨by first | rfl | (rw [e.1]; done) | (rw [e.1]; rfl), by rw [e.2]; exact ⟨_, _, _, _, _, _, _, _, _, by first | rfl | (simp only [diskT, pushD, cutD1, Int.toNat_natCast, List.map_append, List.map_cons, List.map_nil, DeedD.cs]; rfl)⟩⟩) | (have e := cut_go (d := d) (i := 1) h16 h26 h31 h35; exact ⟨by first | rfl | (rw [e.1]; done) | (rw [e.1]; rfl), by rw [e.2]; exact ⟨_, _, _, _, _, _, _, _, _, by first | rfl | (simp only [diskT, pushD, cutD1, Int.toNat_natCast, List.map_append, List.map_cons, List.map_nil, DeedD.cs]; rfl)⟩⟩)
theorem append_c2 (b : List UInt8) (h : d.Fit) (hb : b.length ≤ 1099511627776) : ACo Try.prog 19 [.bx 0 g 0, .sc (.int .i64 2), .sl (byA b)] (diskT g g1 g2 g3 g4 g5 g6 g7 g8 g9 d)
    (fun y os' => y = .sc (.int .i64 (appR d b)) ∧ DiskAt g (appD d 2 b) os') := by
  have hbn := burnN_le (n := b.length) h (by omega)
  have hw := h.w
  have hnn := h.n 2
  have hqq := h.q
  refine ACo.of (t0 := [.bx 0 g 0, .sc (.int .i64 2), .sl (byA b), AV.sc undef, AV.sc undef, AV.sc undef, AV.sc undef, AV.sc undef, AV.sc undef, AV.sc undef, AV.sc undef, AV.sc undef, AV.sc undef, AV.sc undef, AV.sc undef, AV.sc undef, AV.sc undef, AV.sc undef, AV.sc undef, AV.sc undef, AV.sc undef, AV.sc undef, AV.sc undef, AV.sc undef, AV.sc undef, AV.sc undef, AV.sc undef, AV.sc undef, AV.sc undef, AV.sc undef, AV.sc undef, AV.sc undef, AV.sc undef, AV.sc undef, AV.sc undef, AV.sc undef, AV.sc undef, AV.sc undef, AV.sc undef, AV.sc undef, AV.sc undef, AV.sc undef, AV.sc undef, AV.sc undef, AV.sc undef, AV.sc undef, AV.sc undef, AV.sc undef, AV.sc undef, AV.sc undef, AV.sc undef, AV.sc undef, AV.sc undef, AV.sc undef, AV.sc undef, AV.sc undef, AV.sc undef, AV.sc undef, AV.sc undef, AV.sc undef, AV.sc undef, AV.sc undef, AV.sc undef, AV.sc undef, AV.sc undef, AV.sc undef, AV.sc undef, AV.sc undef, AV.sc undef, AV.sc undef, AV.sc undef]) (st0 := [⟨g, .box 99 [.sc (.int .i64 d.room), .ow 1 g1, .ow 2 g2, .ow 3 g3, .ow 4 g4, .ow 5 g5, .ow 6 g6, .ow 7 g7, .ow 8 g8, .ow 9 g9, .sc (.int .i64 d.waits), .sc (.int .i64 d.done), .sc (.bool d.fused), .sc (.int .i64 d.fuse), .sc (.bool d.dark)]⟩, ⟨g1, owM (d.nf 0) 5 1 (byA (d.n 0))⟩, ⟨g2, owM (d.nf 1) 5 1 (byA (d.n 1))⟩, ⟨g3, owM (d.nf 2) 5 1 (byA (d.n 2))⟩, ⟨g4, owM (d.nf 3) 5 1 (byA (d.n 3))⟩, ⟨g5, owM (d.lf 0) 5 1 (byA (d.l 0))⟩, ⟨g6, owM (d.lf 1) 5 1 (byA (d.l 1))⟩, ⟨g7, owM (d.lf 2) 5 1 (byA (d.l 2))⟩, ⟨g8, owM (d.lf 3) 5 1 (byA (d.l 3))⟩, ⟨g9, owM true 102 4 (d.q.map DeedD.cs)⟩, TK.mk 0 .off, TK.mk 0 .off, TK.mk 0 .off, TK.mk 0 .off, TK.mk 0 .off]) 5 Try.func19 rfl rfl rfl 10 rfl ?_
  refine AW.seq ?_
  refine AW.region ?_
  refine AL.r (rd_assign rfl rfl) ?_
  refine AL.nil ?_
  change AW _ _ _ _ _
  refine AW.seq ?_
  refine AW.seq ?_
  refine AW.region ?_
  refine AL.r (rd_move rfl rfl) ?_
  refine AL.r (rd_peq_bx rfl pt_25 rfl rfl rfl) ?_
  refine AL.nil ?_
  change AW _ _ _ _ _
  refine AW.cond_f rfl ?_
  refine AW.skip ?_
  change AW _ _ _ _ _
  refine AW.seq ?_
  refine AW.seq ?_
  refine AW.region ?_
  refine AL.r (rd_move rfl rfl) ?_
  refine AL.op rfl (AOpB.op (op_call (right_in (by decide)) rfl (by kernel_rfl) rfl (none) ?_))
  rintro r rfl
  refine AL.no ?_
  refine AL.r (rd_un rfl rfl (fun _ => rfl)) ?_
  refine AL.nil ?_
  change AW _ _ _ _ _
  refine AW.cond_f rfl ?_
  refine AW.skip ?_
  change AW _ _ _ _ _
  refine AW.seq ?_
  refine AW.seq ?_
  refine AW.region ?_
  refine AL.r (rd_move rfl rfl) ?_
  refine AL.r (rd_nilc_bx rfl rfl rfl) ?_
  refine AL.r (rd_faddr_bx rfl fo_99_8 rfl rfl ⟨_, _, rfl⟩) ?_
  refine AL.r (rd_load_bx rfl ag_4 rfl rfl rfl) ?_
  refine AL.nil ?_
  change AW _ _ _ _ _
  refine AW.cond rfl (fun h16 => ?_) (fun h16 => ?_)
  · (try simp only [decide_eq_true_eq, decide_eq_false_iff_not, beq_iff_eq, beq_eq_false_iff_ne, bne_iff_ne, bne_eq_false_iff_eq, Bool.not_eq_true', Bool.not_eq_false', ne_eq, Bool.not_eq_eq_eq_not, Bool.not_true, Bool.not_false, gt_iff_lt, ge_iff_le, Bool.not_not] at h16)
    refine AW.seq ?_
    refine AW.region ?_
    refine AL.r (rd_assign rfl rfl) ?_
    refine AL.nil ?_
    change AW _ _ _ _ _
    refine AW.ret ?_
    repeat with_reducible first | refine thenA_ret ?_ | refine inBlockA_ret ?_
    with_reducible first | refine retO_ret ?_ | refine retO_normal ?_
    refine reso1 rfl (Nat.le_of_ble_eq_true rfl) (by simp only [cleanS, cle_owM, cle_own, cle_nown, cle_obj, cle_off, cle_box, okC, liveA, List.take_succ_cons, List.take_zero, List.all_cons, List.all_nil, List.getElem?_cons_zero, List.getElem?_cons_succ, isO_owM, isO_own, isO_nown, TC.isB, beq_self_eq_true, Bool.and_self, Bool.and_true, ok1, ok2, List.map_cons, List.map_nil]) (ResV.tmp rfl) rfl (by simp only [cleanS, cle_owM, cle_own, cle_nown, cle_obj, cle_off, cle_box, okC, liveA, List.take_succ_cons, List.take_zero, List.all_cons, List.all_nil, List.getElem?_cons_zero, List.getElem?_cons_succ, isO_owM, isO_own, isO_nown, TC.isB, beq_self_eq_true, Bool.and_self, Bool.and_true, ok1, ok2, List.map_cons, List.map_nil]) ?_
    first | (have e := app_dark (b := b) (i := 2) h16; exact ⟨by first | rfl | (rw [e.1]; done) | (rw [e.1]; rfl), by rw [e.2]; exact ⟨_, _, _, _, _, _, _, _, _, by first | rfl | (simp only [diskT, pushD, cutD1, Int.toNat_natCast, List.map_append, List.map_cons, List.map_nil, DeedD.cs]; rfl)⟩⟩) | (have e := app_full (i := 2) h16 h21; exact ⟨by first | rfl | (rw [e.1]; done) | (rw [e.1]; rfl), by rw [e.2]; exact ⟨_, _, _, _, _, _, _, _, _, by first | rfl | (simp only [diskT, pushD, cutD1, Int.toNat_natCast, List.map_append, List.map_cons, List.map_nil, DeedD.cs]; rfl)⟩⟩) | (have e := app_go (i := 2) h16 h21 h27 h70; exact ⟨by first | rfl | (rw [e.1]; done) | (rw [e.1]; rfl), by rw [e.2]; exact ⟨_, _, _, _, _, _, _, _, _, by first | rfl | (simp only [diskT, pushD, cutD1, Int.toNat_natCast, List.map_append, List.map_cons, List.map_nil, DeedD.cs]; rfl)⟩⟩) | (have e := app_no (i := 2) h16 h21 h27 h70; exact ⟨by first | rfl | (rw [e.1]; done) | (rw [e.1]; rfl), by rw [e.2]; exact ⟨_, _, _, _, _, _, _, _, _, by first | rfl | (simp only [diskT, pushD, cutD1, Int.toNat_natCast, List.map_append, List.map_cons, List.map_nil, DeedD.cs]; rfl)⟩⟩)
  · (try simp only [decide_eq_true_eq, decide_eq_false_iff_not, beq_iff_eq, beq_eq_false_iff_ne, bne_iff_ne, bne_eq_false_iff_eq, Bool.not_eq_true', Bool.not_eq_false', ne_eq, Bool.not_eq_eq_eq_not, Bool.not_true, Bool.not_false, gt_iff_lt, ge_iff_le, Bool.not_not] at h16)
    refine AW.skip ?_
    change AW _ _ _ _ _
    refine AW.seq ?_
    refine AW.seq ?_
    refine AW.region ?_
    refine AL.r (rd_move rfl rfl) ?_
    refine AL.r (rd_len_sl rfl el_29 rfl) ?_
    refine AL.r (rd_move rfl rfl) ?_
    refine AL.op rfl (op_callo (left_c d g g1 g2 g3 g4 g5 g6 g7 g8 g9 h.room h.n) rfl (by kernel_rfl) [0, 1, 2, 3, 4, 5, 6, 7, 8, 9] (by decide) (by simp only [diskT, List.map_cons, List.map_nil, renT, renC_owM, renC_box, renC_own, renC_nown, renC_obj, renC_off, ren0, List.getD_cons_zero, List.getD_cons_succ]; exact ⟨rfl, rfl, rfl, rfl, rfl, rfl, rfl, rfl, rfl, rfl, trivial⟩) rfl (by simp only [diskT, cleanS, cle_owM, cle_own, cle_nown, cle_obj, cle_off, cle_box, okC, liveA, List.take_succ_cons, List.take_zero, List.all_cons, List.all_nil, List.getElem?_cons_zero, List.getElem?_cons_succ, isO_owM, isO_own, isO_nown, TC.isB, beq_self_eq_true, Bool.and_self, Bool.and_true, ok1, ok2, List.map_cons, List.map_nil]) (by simp only [diskT, cleanS, cle_owM, cle_own, cle_nown, cle_obj, cle_off, cle_box, okC, liveA, List.take_succ_cons, List.take_zero, List.all_cons, List.all_nil, List.getElem?_cons_zero, List.getElem?_cons_succ, isO_owM, isO_own, isO_nown, TC.isB, beq_self_eq_true, Bool.and_self, Bool.and_true, ok1, ok2, List.map_cons, List.map_nil]) ?_)
    rintro y os' ⟨rfl, rfl⟩
    refine AL.no ?_ (by (try simp only [diskT, putA, evA, List.getD_cons_zero, List.getD_cons_succ, List.set_cons_zero, List.set_cons_succ, List.length_map, KR, splA, List.map_cons, List.map_nil, List.length_append, List.length_cons, List.length_nil, List.drop_zero, csS_len, csS_take, csS_drop, csS_app, byA_len, byA_take, byA_drop, byA_app, ← List.map_take, ← List.map_drop, ← List.map_append, List.take_succ_cons, List.take_zero, List.drop_succ_cons, List.cons_append, List.nil_append, Nat.zero_add, Nat.reduceAdd, Nat.reduceMul, Nat.add_zero, Nat.mul_one, putT, renT, renC_owM, renC_box, renC_own, renC_nown, renC_obj, renC_off, ren2, ren1, ren0, ok1, ok2]); (try rfl)) (by (try simp only [diskT, putA, evA, List.getD_cons_zero, List.getD_cons_succ, List.set_cons_zero, List.set_cons_succ, List.length_map, KR, splA, List.map_cons, List.map_nil, List.length_append, List.length_cons, List.length_nil, List.drop_zero, csS_len, csS_take, csS_drop, csS_app, byA_len, byA_take, byA_drop, byA_app, ← List.map_take, ← List.map_drop, ← List.map_append, List.take_succ_cons, List.take_zero, List.drop_succ_cons, List.cons_append, List.nil_append, Nat.zero_add, Nat.reduceAdd, Nat.reduceMul, Nat.add_zero, Nat.mul_one, putT, renT, renC_owM, renC_box, renC_own, renC_nown, renC_obj, renC_off, ren2, ren1, ren0, ok1, ok2]); (try rfl))
    refine AL.r (rd_bin rfl rfl rfl (fun _ => rfl)) ?_
    refine AL.nil ?_
    change AW _ _ _ _ _
    refine AW.cond rfl (fun h21 => ?_) (fun h21 => ?_)
    · (try simp only [decide_eq_true_eq, decide_eq_false_iff_not, beq_iff_eq, beq_eq_false_iff_ne, bne_iff_ne, bne_eq_false_iff_eq, Bool.not_eq_true', Bool.not_eq_false', ne_eq, Bool.not_eq_eq_eq_not, Bool.not_true, Bool.not_false, gt_iff_lt, ge_iff_le, Bool.not_not] at h21)
      refine AW.seq ?_
      refine AW.region ?_
      refine AL.r (rd_assign rfl rfl) ?_
      refine AL.nil ?_
      change AW _ _ _ _ _
      refine AW.ret ?_
      repeat with_reducible first | refine thenA_ret ?_ | refine inBlockA_ret ?_
      with_reducible first | refine retO_ret ?_ | refine retO_normal ?_
      refine reso1 rfl (Nat.le_of_ble_eq_true rfl) (by simp only [cleanS, cle_owM, cle_own, cle_nown, cle_obj, cle_off, cle_box, okC, liveA, List.take_succ_cons, List.take_zero, List.all_cons, List.all_nil, List.getElem?_cons_zero, List.getElem?_cons_succ, isO_owM, isO_own, isO_nown, TC.isB, beq_self_eq_true, Bool.and_self, Bool.and_true, ok1, ok2, List.map_cons, List.map_nil]) (ResV.tmp rfl) rfl (by simp only [cleanS, cle_owM, cle_own, cle_nown, cle_obj, cle_off, cle_box, okC, liveA, List.take_succ_cons, List.take_zero, List.all_cons, List.all_nil, List.getElem?_cons_zero, List.getElem?_cons_succ, isO_owM, isO_own, isO_nown, TC.isB, beq_self_eq_true, Bool.and_self, Bool.and_true, ok1, ok2, List.map_cons, List.map_nil]) ?_
      first | (have e := app_dark (b := b) (i := 2) h16; exact ⟨by first | rfl | (rw [e.1]; done) | (rw [e.1]; rfl), by rw [e.2]; exact ⟨_, _, _, _, _, _, _, _, _, by first | rfl | (simp only [diskT, pushD, cutD1, Int.toNat_natCast, List.map_append, List.map_cons, List.map_nil, DeedD.cs]; rfl)⟩⟩) | (have e := app_full (i := 2) h16 h21; exact ⟨by first | rfl | (rw [e.1]; done) | (rw [e.1]; rfl), by rw [e.2]; exact ⟨_, _, _, _, _, _, _, _, _, by first | rfl | (simp only [diskT, pushD, cutD1, Int.toNat_natCast, List.map_append, List.map_cons, List.map_nil, DeedD.cs]; rfl)⟩⟩) | (have e := app_go (i := 2) h16 h21 h27 h70; exact ⟨by first | rfl | (rw [e.1]; done) | (rw [e.1]; rfl), by rw [e.2]; exact ⟨_, _, _, _, _, _, _, _, _, by first | rfl | (simp only [diskT, pushD, cutD1, Int.toNat_natCast, List.map_append, List.map_cons, List.map_nil, DeedD.cs]; rfl)⟩⟩) | (have e := app_no (i := 2) h16 h21 h27 h70; exact ⟨by first | rfl | (rw [e.1]; done) | (rw [e.1]; rfl), by rw [e.2]; exact ⟨_, _, _, _, _, _, _, _, _, by first | rfl | (simp only [diskT, pushD, cutD1, Int.toNat_natCast, List.map_append, List.map_cons, List.map_nil, DeedD.cs]; rfl)⟩⟩)
    · (try simp only [decide_eq_true_eq, decide_eq_false_iff_not, beq_iff_eq, beq_eq_false_iff_ne, bne_iff_ne, bne_eq_false_iff_eq, Bool.not_eq_true', Bool.not_eq_false', ne_eq, Bool.not_eq_eq_eq_not, Bool.not_true, Bool.not_false, gt_iff_lt, ge_iff_le, Bool.not_not] at h21)
      refine AW.skip ?_
      change AW _ _ _ _ _
      refine AW.seq ?_
      refine AW.region ?_
      refine AL.r (rd_move rfl rfl) ?_
      refine AL.r (rd_move rfl rfl) ?_
      refine AL.r (rd_len_sl rfl el_29 rfl) ?_
      refine AL.op rfl (op_callo (burn_c d g g1 g2 g3 g4 g5 g6 g7 g8 g9 (b.length : Int) h.fuse (by omega)) rfl (by kernel_rfl) [0, 1, 2, 3, 4, 5, 6, 7, 8, 9] (by decide) (by simp only [diskT, List.map_cons, List.map_nil, renT, renC_owM, renC_box, renC_own, renC_nown, renC_obj, renC_off, ren0, List.getD_cons_zero, List.getD_cons_succ]; exact ⟨rfl, rfl, rfl, rfl, rfl, rfl, rfl, rfl, rfl, rfl, trivial⟩) rfl (by simp only [diskT, cleanS, cle_owM, cle_own, cle_nown, cle_obj, cle_off, cle_box, okC, liveA, List.take_succ_cons, List.take_zero, List.all_cons, List.all_nil, List.getElem?_cons_zero, List.getElem?_cons_succ, isO_owM, isO_own, isO_nown, TC.isB, beq_self_eq_true, Bool.and_self, Bool.and_true, ok1, ok2, List.map_cons, List.map_nil]) (by simp only [diskT, cleanS, cle_owM, cle_own, cle_nown, cle_obj, cle_off, cle_box, okC, liveA, List.take_succ_cons, List.take_zero, List.all_cons, List.all_nil, List.getElem?_cons_zero, List.getElem?_cons_succ, isO_owM, isO_own, isO_nown, TC.isB, beq_self_eq_true, Bool.and_self, Bool.and_true, ok1, ok2, List.map_cons, List.map_nil]) ?_)
      rintro y os' ⟨rfl, rfl⟩
      refine AL.no ?_ (by (try simp only [diskT, putA, evA, List.getD_cons_zero, List.getD_cons_succ, List.set_cons_zero, List.set_cons_succ, List.length_map, KR, splA, List.map_cons, List.map_nil, List.length_append, List.length_cons, List.length_nil, List.drop_zero, csS_len, csS_take, csS_drop, csS_app, byA_len, byA_take, byA_drop, byA_app, ← List.map_take, ← List.map_drop, ← List.map_append, List.take_succ_cons, List.take_zero, List.drop_succ_cons, List.cons_append, List.nil_append, Nat.zero_add, Nat.reduceAdd, Nat.reduceMul, Nat.add_zero, Nat.mul_one, putT, renT, renC_owM, renC_box, renC_own, renC_nown, renC_obj, renC_off, ren2, ren1, ren0, ok1, ok2]); (try rfl)) (by (try simp only [diskT, putA, evA, List.getD_cons_zero, List.getD_cons_succ, List.set_cons_zero, List.set_cons_succ, List.length_map, KR, splA, List.map_cons, List.map_nil, List.length_append, List.length_cons, List.length_nil, List.drop_zero, csS_len, csS_take, csS_drop, csS_app, byA_len, byA_take, byA_drop, byA_app, ← List.map_take, ← List.map_drop, ← List.map_append, List.take_succ_cons, List.take_zero, List.drop_succ_cons, List.cons_append, List.nil_append, Nat.zero_add, Nat.reduceAdd, Nat.reduceMul, Nat.add_zero, Nat.mul_one, putT, renT, renC_owM, renC_box, renC_own, renC_nown, renC_obj, renC_off, ren2, ren1, ren0, ok1, ok2]); (try rfl))
      refine AL.r (rd_assign rfl rfl) ?_
      refine AL.nil ?_
      change AW _ _ _ _ _
      refine AW.seq ?_
      refine AW.seq ?_
      refine AW.region ?_
      refine AL.r (rd_move rfl rfl) ?_
      refine AL.r (rd_bin rfl rfl rfl (fun _ => rfl)) ?_
      refine AL.nil ?_
      change AW _ _ _ _ _
      refine AW.cond rfl (fun h27 => ?_) (fun h27 => ?_)
      · (try simp only [decide_eq_true_eq, decide_eq_false_iff_not, beq_iff_eq, beq_eq_false_iff_ne, bne_iff_ne, bne_eq_false_iff_eq, Bool.not_eq_true', Bool.not_eq_false', ne_eq, Bool.not_eq_eq_eq_not, Bool.not_true, Bool.not_false, gt_iff_lt, ge_iff_le, Bool.not_not] at h27)
        refine AW.seq ?_
        apply AW.drawS (by kernel_rfl)
        · skip
          refine ADA.r 0 rfl (ARdP.a (rdP_move rfl rfl)) rfl ?_
          refine ADA.r 1 rfl (ARdP.a (rdP_move rfl rfl)) rfl ?_
          refine ADA.r 2 rfl (ARdP.a (rdP_move rfl rfl)) rfl ?_
          refine ADA.r 3 rfl (ARdP.a (rdP_move rfl rfl)) rfl ?_
          refine ADA.r 4 rfl (ARdP.a (rdP_nilc_bx rfl rfl rfl)) rfl ?_
          refine ADA.r 5 rfl (ARdP.a (rdP_faddr_bx rfl fo_99_1 rfl rfl ⟨_, _, rfl⟩)) rfl ?_
          refine ADA.r 6 rfl (ARdP.a (rdP_iaddr_bx (i := 2) rfl ar_37 rfl rfl rfl (by first | rfl | omega) (by decide))) rfl ?_
          refine ADA.r 8 rfl (ARdP.a (rdP_move rfl rfl)) rfl ?_
          refine ADA.r 9 rfl (ARdP.a (rdP_move rfl rfl)) rfl ?_
          refine ADA.r 10 rfl (ARdP.a (rdP_slice_sl rfl el_29 rfl byA_one rfl ⟨_, _, rfl, (Int.toNat_of_nonneg (by omega)).symm⟩ (by omega) (by simp only [byA_len]; omega))) rfl ?_
          refine ADA.r 12 rfl (ARdP.a (rdP_nilc_bx rfl rfl rfl)) rfl ?_
          refine ADA.r 13 rfl (ARdP.a (rdP_faddr_bx rfl fo_99_1 rfl rfl ⟨_, _, rfl⟩)) rfl ?_
          refine ADA.b ?_
          refine ADB.move 7 rfl (by kernel_rfl) rfl (AOpB.op (ARd.opB (rd_load_bx rfl ag_29 rfl rfl rfl) ?_))
          refine ADB.n ?_
          refine ADB.move 11 rfl (by kernel_rfl) rfl (op_appendM rfl ap_29 rfl rfl (src_sl rfl (by first | exact csS_one | exact byA_one | (intro cs hcs; obtain rfl := List.mem_singleton.1 hcs; rfl) | (intro cs hcs; obtain ⟨_, _, rfl⟩ := List.mem_map.1 hcs; rfl) | simp)) (by simp only [byA_len, burnD, List.length_drop, List.length_take]; omega) (by simp only [byA_len, burnD, List.length_drop, List.length_take]; omega) ?_)
          refine ADB.n ?_
          refine ADB.r 14 rfl (rdP_iaddr_bx (i := 2) rfl ar_37 rfl rfl rfl (by first | rfl | omega) (by decide)) rfl ?_
          refine ADB.move 15 rfl (by kernel_rfl) rfl (op_store rfl rfl rfl rfl rfl (by first | exact live_owM rfl | exact live_own rfl | exact live_nown rfl | rfl) sz_29 (Nat.le_of_ble_eq_true rfl) ?_)
          refine ADB.n ?_
          refine ADB.done (by kernel_rfl) ?_
          exact ⟨rfl, rfl⟩
        skip
        change AW _ _ _ _ _
        refine AW.seq ?_
        apply AW.drawS (by kernel_rfl)
        · skip
          refine ADA.r 0 rfl (ARdP.a (rdP_move rfl rfl)) rfl ?_
          refine ADA.r 1 rfl (ARdP.a (rdP_move rfl rfl)) rfl ?_
          refine ADA.r 2 rfl (ARdP.a (rdP_nilc_bx rfl rfl rfl)) rfl ?_
          refine ADA.r 3 rfl (ARdP.a (rdP_faddr_bx rfl fo_99_3 rfl rfl ⟨_, _, rfl⟩)) rfl ?_
          refine ADA.r 5 rfl (ARdP.a (rdP_move rfl rfl)) rfl ?_
          refine ADA.r 7 rfl (ARdP.a (rdP_move rfl rfl)) rfl ?_
          refine ADA.r 8 rfl (ARdP.a (rdP_move rfl rfl)) rfl ?_
          refine ADA.r 9 rfl (ARdP.a (rdP_slice_sl rfl el_29 rfl byA_one rfl ⟨_, _, rfl, (Int.toNat_of_nonneg (by omega)).symm⟩ (by omega) (by simp only [byA_len]; omega))) rfl ?_
          refine ADA.b ?_
          refine ADB.all (is := [4, 6]) (by kernel_rfl) (by simp) ?_
          intro i hi
          simp only [List.mem_cons, List.not_mem_nil, or_false] at hi
          rcases hi with rfl | rfl
          · skip
            refine ⟨_, rfl, rfl, AOpB.op (ARd.opB (rd_load_bx rfl ag_97 rfl rfl rfl) ?_)⟩
            refine ADB.n ?_
            refine ADB.move 6 rfl (by kernel_rfl) rfl (AOpB.op (bs_own 11 rfl ap_29 ze_5 rfl rfl rfl ?_))
            refine ADB.n ?_
            refine ADB.move 10 rfl (by kernel_rfl) rfl (op_append rfl ap_29 rfl rfl (src_sl rfl (by first | exact csS_one | exact byA_one | (intro cs hcs; obtain rfl := List.mem_singleton.1 hcs; rfl) | (intro cs hcs; obtain ⟨_, _, rfl⟩ := List.mem_map.1 hcs; rfl) | simp)) (by simp [byA_len]; omega) (by simp [byA_len]; omega) ?_)
            refine ADB.n ?_
            refine ADB.settle 53 rfl rfl (by first | rfl | exact cont_owM _ _ _ _) ?_
            refine ADB.n ?_
            refine ADB.r 11 rfl (rdP_build rfl pl_102 ze_102 rfl rfl) rfl ?_
            refine ADB.move 12 rfl (by kernel_rfl) rfl (AOpB.op (bs_set rfl ap_97 ze_102 rfl rfl ?_))
            refine ADB.n ?_
            refine ADB.move 13 rfl (by kernel_rfl) rfl (op_appendM rfl ap_97 rfl rfl (src_sl rfl (by first | exact csS_one | exact byA_one | (intro cs hcs; obtain rfl := List.mem_singleton.1 hcs; rfl) | (intro cs hcs; obtain ⟨_, _, rfl⟩ := List.mem_map.1 hcs; rfl) | simp)) (by simp [burnD]; omega) (by simp [burnD]; omega) ?_)
            refine ADB.n ?_
            refine ADB.r 14 rfl (rdP_nilc_bx rfl rfl rfl) rfl ?_
            refine ADB.r 15 rfl (rdP_faddr_bx rfl fo_99_3 rfl rfl ⟨_, _, rfl⟩) rfl ?_
            refine ADB.move 16 rfl (by kernel_rfl) rfl (op_store rfl rfl rfl rfl rfl (by first | exact live_owM rfl | exact live_own rfl | exact live_nown rfl | rfl) sz_97 (Nat.le_of_ble_eq_true rfl) ?_)
            refine ADB.n ?_
            refine ADB.done (by kernel_rfl) ?_
            exact ⟨rfl, rfl⟩
          · skip
            refine ⟨_, rfl, rfl, AOpB.op (bs_own 11 rfl ap_29 ze_5 rfl rfl rfl ?_)⟩
            refine ADB.n ?_
            refine ADB.all (is := [4, 10]) (by kernel_rfl) (by simp) ?_
            intro i hi
            simp only [List.mem_cons, List.not_mem_nil, or_false] at hi
            rcases hi with rfl | rfl
            · skip
              refine ⟨_, rfl, rfl, AOpB.op (ARd.opB (rd_load_bx rfl ag_97 rfl rfl rfl) ?_)⟩
              refine ADB.n ?_
              refine ADB.move 10 rfl (by kernel_rfl) rfl (op_append rfl ap_29 rfl rfl (src_sl rfl (by first | exact csS_one | exact byA_one | (intro cs hcs; obtain rfl := List.mem_singleton.1 hcs; rfl) | (intro cs hcs; obtain ⟨_, _, rfl⟩ := List.mem_map.1 hcs; rfl) | simp)) (by simp [byA_len]; omega) (by simp [byA_len]; omega) ?_)
              refine ADB.n ?_
              refine ADB.settle 53 rfl rfl (by first | rfl | exact cont_owM _ _ _ _) ?_
              refine ADB.n ?_
              refine ADB.r 11 rfl (rdP_build rfl pl_102 ze_102 rfl rfl) rfl ?_
              refine ADB.move 12 rfl (by kernel_rfl) rfl (AOpB.op (bs_set rfl ap_97 ze_102 rfl rfl ?_))
              refine ADB.n ?_
              refine ADB.move 13 rfl (by kernel_rfl) rfl (op_appendM rfl ap_97 rfl rfl (src_sl rfl (by first | exact csS_one | exact byA_one | (intro cs hcs; obtain rfl := List.mem_singleton.1 hcs; rfl) | (intro cs hcs; obtain ⟨_, _, rfl⟩ := List.mem_map.1 hcs; rfl) | simp)) (by simp [burnD]; omega) (by simp [burnD]; omega) ?_)
              refine ADB.n ?_
              refine ADB.r 14 rfl (rdP_nilc_bx rfl rfl rfl) rfl ?_
              refine ADB.r 15 rfl (rdP_faddr_bx rfl fo_99_3 rfl rfl ⟨_, _, rfl⟩) rfl ?_
              refine ADB.move 16 rfl (by kernel_rfl) rfl (op_store rfl rfl rfl rfl rfl (by first | exact live_owM rfl | exact live_own rfl | exact live_nown rfl | rfl) sz_97 (Nat.le_of_ble_eq_true rfl) ?_)
              refine ADB.n ?_
              refine ADB.done (by kernel_rfl) ?_
              exact ⟨rfl, rfl⟩
            · skip
              refine ⟨_, rfl, rfl, op_append rfl ap_29 rfl rfl (src_sl rfl (by first | exact csS_one | exact byA_one | (intro cs hcs; obtain rfl := List.mem_singleton.1 hcs; rfl) | (intro cs hcs; obtain ⟨_, _, rfl⟩ := List.mem_map.1 hcs; rfl) | simp)) (by simp [byA_len]; omega) (by simp [byA_len]; omega) ?_⟩
              refine ADB.n ?_
              refine ADB.settle 53 rfl rfl (by first | rfl | exact cont_owM _ _ _ _) ?_
              refine ADB.n ?_
              refine ADB.r 11 rfl (rdP_build rfl pl_102 ze_102 rfl rfl) rfl ?_
              refine ADB.all (is := [4, 12]) (by kernel_rfl) (by simp) ?_
              intro i hi
              simp only [List.mem_cons, List.not_mem_nil, or_false] at hi
              rcases hi with rfl | rfl
              · skip
                refine ⟨_, rfl, rfl, AOpB.op (ARd.opB (rd_load_bx rfl ag_97 rfl rfl rfl) ?_)⟩
                refine ADB.n ?_
                refine ADB.move 12 rfl (by kernel_rfl) rfl (AOpB.op (bs_set rfl ap_97 ze_102 rfl rfl ?_))
                refine ADB.n ?_
                refine ADB.move 13 rfl (by kernel_rfl) rfl (op_appendM rfl ap_97 rfl rfl (src_sl rfl (by first | exact csS_one | exact byA_one | (intro cs hcs; obtain rfl := List.mem_singleton.1 hcs; rfl) | (intro cs hcs; obtain ⟨_, _, rfl⟩ := List.mem_map.1 hcs; rfl) | simp)) (by simp [burnD]; omega) (by simp [burnD]; omega) ?_)
                refine ADB.n ?_
                refine ADB.r 14 rfl (rdP_nilc_bx rfl rfl rfl) rfl ?_
                refine ADB.r 15 rfl (rdP_faddr_bx rfl fo_99_3 rfl rfl ⟨_, _, rfl⟩) rfl ?_
                refine ADB.move 16 rfl (by kernel_rfl) rfl (op_store rfl rfl rfl rfl rfl (by first | exact live_owM rfl | exact live_own rfl | exact live_nown rfl | rfl) sz_97 (Nat.le_of_ble_eq_true rfl) ?_)
                refine ADB.n ?_
                refine ADB.done (by kernel_rfl) ?_
                exact ⟨rfl, rfl⟩
              · skip
                refine ⟨_, rfl, rfl, AOpB.op (bs_set rfl ap_97 ze_102 rfl rfl ?_)⟩
                refine ADB.n ?_
                refine ADB.move 4 rfl (by kernel_rfl) rfl (AOpB.op (ARd.opB (rd_load_bx rfl ag_97 rfl rfl rfl) ?_))
                refine ADB.n ?_
                refine ADB.move 13 rfl (by kernel_rfl) rfl (op_appendM rfl ap_97 rfl rfl (src_sl rfl (by first | exact csS_one | exact byA_one | (intro cs hcs; obtain rfl := List.mem_singleton.1 hcs; rfl) | (intro cs hcs; obtain ⟨_, _, rfl⟩ := List.mem_map.1 hcs; rfl) | simp)) (by simp [burnD]; omega) (by simp [burnD]; omega) ?_)
                refine ADB.n ?_
                refine ADB.r 14 rfl (rdP_nilc_bx rfl rfl rfl) rfl ?_
                refine ADB.r 15 rfl (rdP_faddr_bx rfl fo_99_3 rfl rfl ⟨_, _, rfl⟩) rfl ?_
                refine ADB.move 16 rfl (by kernel_rfl) rfl (op_store rfl rfl rfl rfl rfl (by first | exact live_owM rfl | exact live_own rfl | exact live_nown rfl | rfl) sz_97 (Nat.le_of_ble_eq_true rfl) ?_)
                refine ADB.n ?_
                refine ADB.done (by kernel_rfl) ?_
                exact ⟨rfl, rfl⟩
        skip
        change AW _ _ _ _ _
        refine AW.region ?_
        refine AL.r (rd_move rfl rfl) ?_
        refine AL.r (rd_nilc_bx rfl rfl rfl) ?_
        refine AL.r (rd_faddr_bx rfl fo_99_4 rfl rfl ⟨_, _, rfl⟩) ?_
        refine AL.r (rd_load_bx rfl ag_3 rfl rfl rfl) ?_
        refine AL.r (rd_move rfl rfl) ?_
        refine AL.r (rd_arith_add rfl rfl rfl (IntWalk.i64_in _ (by simp only [burnD]; omega))) ?_
        refine AL.r (rd_nilc_bx rfl rfl rfl) ?_
        refine AL.r (rd_faddr_bx rfl fo_99_4 rfl rfl ⟨_, _, rfl⟩) ?_
        refine AL.op rfl (op_store rfl rfl rfl rfl rfl rfl sz_3 (Nat.le_of_ble_eq_true rfl) ?_)
        refine AL.no ?_
        refine AL.nil ?_
        change AW _ _ _ _ _
        refine AW.seq ?_
        refine AW.seq ?_
        refine AW.region ?_
        refine AL.r (rd_move rfl rfl) ?_
        refine AL.r (rd_nilc_bx rfl rfl rfl) ?_
        refine AL.r (rd_faddr_bx rfl fo_99_8 rfl rfl ⟨_, _, rfl⟩) ?_
        refine AL.r (rd_load_bx rfl ag_4 rfl rfl rfl) ?_
        refine AL.nil ?_
        change AW _ _ _ _ _
        refine AW.cond rfl (fun h70 => ?_) (fun h70 => ?_)
        · (try simp only [decide_eq_true_eq, decide_eq_false_iff_not, beq_iff_eq, beq_eq_false_iff_ne, bne_iff_ne, bne_eq_false_iff_eq, Bool.not_eq_true', Bool.not_eq_false', ne_eq, Bool.not_eq_eq_eq_not, Bool.not_true, Bool.not_false, gt_iff_lt, ge_iff_le, Bool.not_not] at h70)
          refine AW.seq ?_
          refine AW.region ?_
          refine AL.r (rd_assign rfl rfl) ?_
          refine AL.nil ?_
          change AW _ _ _ _ _
          refine AW.ret ?_
          repeat with_reducible first | refine thenA_ret ?_ | refine inBlockA_ret ?_
          with_reducible first | refine retO_ret ?_ | refine retO_normal ?_
          refine reso1 rfl (Nat.le_of_ble_eq_true rfl) (by simp only [cleanS, cle_owM, cle_own, cle_nown, cle_obj, cle_off, cle_box, okC, liveA, List.take_succ_cons, List.take_zero, List.all_cons, List.all_nil, List.getElem?_cons_zero, List.getElem?_cons_succ, isO_owM, isO_own, isO_nown, TC.isB, beq_self_eq_true, Bool.and_self, Bool.and_true, ok1, ok2, List.map_cons, List.map_nil]) (ResV.tmp rfl) rfl (by simp only [cleanS, cle_owM, cle_own, cle_nown, cle_obj, cle_off, cle_box, okC, liveA, List.take_succ_cons, List.take_zero, List.all_cons, List.all_nil, List.getElem?_cons_zero, List.getElem?_cons_succ, isO_owM, isO_own, isO_nown, TC.isB, beq_self_eq_true, Bool.and_self, Bool.and_true, ok1, ok2, List.map_cons, List.map_nil]) ?_
          first | (have e := app_dark (b := b) (i := 2) h16; exact ⟨by first | rfl | (rw [e.1]; done) | (rw [e.1]; rfl), by rw [e.2]; exact ⟨_, _, _, _, _, _, _, _, _, by first | rfl | (simp only [diskT, pushD, cutD1, Int.toNat_natCast, List.map_append, List.map_cons, List.map_nil, DeedD.cs]; rfl)⟩⟩) | (have e := app_full (i := 2) h16 h21; exact ⟨by first | rfl | (rw [e.1]; done) | (rw [e.1]; rfl), by rw [e.2]; exact ⟨_, _, _, _, _, _, _, _, _, by first | rfl | (simp only [diskT, pushD, cutD1, Int.toNat_natCast, List.map_append, List.map_cons, List.map_nil, DeedD.cs]; rfl)⟩⟩) | (have e := app_go (i := 2) h16 h21 h27 h70; exact ⟨by first | rfl | (rw [e.1]; done) | (rw [e.1]; rfl), by rw [e.2]; exact ⟨_, _, _, _, _, _, _, _, _, by first | rfl | (simp only [diskT, pushD, cutD1, Int.toNat_natCast, List.map_append, List.map_cons, List.map_nil, DeedD.cs]; rfl)⟩⟩) | (have e := app_no (i := 2) h16 h21 h27 h70; exact ⟨by first | rfl | (rw [e.1]; done) | (rw [e.1]; rfl), by rw [e.2]; exact ⟨_, _, _, _, _, _, _, _, _, by first | rfl | (simp only [diskT, pushD, cutD1, Int.toNat_natCast, List.map_append, List.map_cons, List.map_nil, DeedD.cs]; rfl)⟩⟩)
        · (try simp only [decide_eq_true_eq, decide_eq_false_iff_not, beq_iff_eq, beq_eq_false_iff_ne, bne_iff_ne, bne_eq_false_iff_eq, Bool.not_eq_true', Bool.not_eq_false', ne_eq, Bool.not_eq_eq_eq_not, Bool.not_true, Bool.not_false, gt_iff_lt, ge_iff_le, Bool.not_not] at h70)
          refine AW.skip ?_
          change AW _ _ _ _ _
          refine AW.seq ?_
          refine AW.region ?_
          refine AL.r (rd_assign rfl rfl) ?_
          refine AL.nil ?_
          change AW _ _ _ _ _
          refine AW.ret ?_
          repeat with_reducible first | refine thenA_ret ?_ | refine inBlockA_ret ?_
          with_reducible first | refine retO_ret ?_ | refine retO_normal ?_
          refine reso1 rfl (Nat.le_of_ble_eq_true rfl) (by simp only [cleanS, cle_owM, cle_own, cle_nown, cle_obj, cle_off, cle_box, okC, liveA, List.take_succ_cons, List.take_zero, List.all_cons, List.all_nil, List.getElem?_cons_zero, List.getElem?_cons_succ, isO_owM, isO_own, isO_nown, TC.isB, beq_self_eq_true, Bool.and_self, Bool.and_true, ok1, ok2, List.map_cons, List.map_nil]) (ResV.tmp rfl) rfl (by simp only [cleanS, cle_owM, cle_own, cle_nown, cle_obj, cle_off, cle_box, okC, liveA, List.take_succ_cons, List.take_zero, List.all_cons, List.all_nil, List.getElem?_cons_zero, List.getElem?_cons_succ, isO_owM, isO_own, isO_nown, TC.isB, beq_self_eq_true, Bool.and_self, Bool.and_true, ok1, ok2, List.map_cons, List.map_nil]) ?_
          first | (have e := app_dark (b := b) (i := 2) h16; exact ⟨by first | rfl | (rw [e.1]; done) | (rw [e.1]; rfl), by rw [e.2]; exact ⟨_, _, _, _, _, _, _, _, _, by first | rfl | (simp only [diskT, pushD, cutD1, Int.toNat_natCast, List.map_append, List.map_cons, List.map_nil, DeedD.cs]; rfl)⟩⟩) | (have e := app_full (i := 2) h16 h21; exact ⟨by first | rfl | (rw [e.1]; done) | (rw [e.1]; rfl), by rw [e.2]; exact ⟨_, _, _, _, _, _, _, _, _, by first | rfl | (simp only [diskT, pushD, cutD1, Int.toNat_natCast, List.map_append, List.map_cons, List.map_nil, DeedD.cs]; rfl)⟩⟩) | (have e := app_go (i := 2) h16 h21 h27 h70; exact ⟨by first | rfl | (rw [e.1]; done) | (rw [e.1]; rfl), by rw [e.2]; exact ⟨_, _, _, _, _, _, _, _, _, by first | rfl | (simp only [diskT, pushD, cutD1, Int.toNat_natCast, List.map_append, List.map_cons, List.map_nil, DeedD.cs]; rfl)⟩⟩) | (have e := app_no (i := 2) h16 h21 h27 h70; exact ⟨by first | rfl | (rw [e.1]; done) | (rw [e.1]; rfl), by rw [e.2]; exact ⟨_, _, _, _, _, _, _, _, _, by first | rfl | (simp only [diskT, pushD, cutD1, Int.toNat_natCast, List.map_append, List.map_cons, List.map_nil, DeedD.cs]; rfl)⟩⟩)
      · (try simp only [decide_eq_true_eq, decide_eq_false_iff_not, beq_iff_eq, beq_eq_false_iff_ne, bne_iff_ne, bne_eq_false_iff_eq, Bool.not_eq_true', Bool.not_eq_false', ne_eq, Bool.not_eq_eq_eq_not, Bool.not_true, Bool.not_false, gt_iff_lt, ge_iff_le, Bool.not_not] at h27)
        refine AW.skip ?_
        change AW _ _ _ _ _
        refine AW.seq ?_
        refine AW.seq ?_
        refine AW.region ?_
        refine AL.r (rd_move rfl rfl) ?_
        refine AL.r (rd_nilc_bx rfl rfl rfl) ?_
        refine AL.r (rd_faddr_bx rfl fo_99_8 rfl rfl ⟨_, _, rfl⟩) ?_
        refine AL.r (rd_load_bx rfl ag_4 rfl rfl rfl) ?_
        refine AL.nil ?_
        change AW _ _ _ _ _
        refine AW.cond rfl (fun h70 => ?_) (fun h70 => ?_)
        · (try simp only [decide_eq_true_eq, decide_eq_false_iff_not, beq_iff_eq, beq_eq_false_iff_ne, bne_iff_ne, bne_eq_false_iff_eq, Bool.not_eq_true', Bool.not_eq_false', ne_eq, Bool.not_eq_eq_eq_not, Bool.not_true, Bool.not_false, gt_iff_lt, ge_iff_le, Bool.not_not] at h70)
          refine AW.seq ?_
          refine AW.region ?_
          refine AL.r (rd_assign rfl rfl) ?_
          refine AL.nil ?_
          change AW _ _ _ _ _
          refine AW.ret ?_
          repeat with_reducible first | refine thenA_ret ?_ | refine inBlockA_ret ?_
          with_reducible first | refine retO_ret ?_ | refine retO_normal ?_
          refine reso1 rfl (Nat.le_of_ble_eq_true rfl) (by simp only [cleanS, cle_owM, cle_own, cle_nown, cle_obj, cle_off, cle_box, okC, liveA, List.take_succ_cons, List.take_zero, List.all_cons, List.all_nil, List.getElem?_cons_zero, List.getElem?_cons_succ, isO_owM, isO_own, isO_nown, TC.isB, beq_self_eq_true, Bool.and_self, Bool.and_true, ok1, ok2, List.map_cons, List.map_nil]) (ResV.tmp rfl) rfl (by simp only [cleanS, cle_owM, cle_own, cle_nown, cle_obj, cle_off, cle_box, okC, liveA, List.take_succ_cons, List.take_zero, List.all_cons, List.all_nil, List.getElem?_cons_zero, List.getElem?_cons_succ, isO_owM, isO_own, isO_nown, TC.isB, beq_self_eq_true, Bool.and_self, Bool.and_true, ok1, ok2, List.map_cons, List.map_nil]) ?_
          first | (have e := app_dark (b := b) (i := 2) h16; exact ⟨by first | rfl | (rw [e.1]; done) | (rw [e.1]; rfl), by rw [e.2]; exact ⟨_, _, _, _, _, _, _, _, _, by first | rfl | (simp only [diskT, pushD, cutD1, Int.toNat_natCast, List.map_append, List.map_cons, List.map_nil, DeedD.cs]; rfl)⟩⟩) | (have e := app_full (i := 2) h16 h21; exact ⟨by first | rfl | (rw [e.1]; done) | (rw [e.1]; rfl), by rw [e.2]; exact ⟨_, _, _, _, _, _, _, _, _, by first | rfl | (simp only [diskT, pushD, cutD1, Int.toNat_natCast, List.map_append, List.map_cons, List.map_nil, DeedD.cs]; rfl)⟩⟩) | (have e := app_go (i := 2) h16 h21 h27 h70; exact ⟨by first | rfl | (rw [e.1]; done) | (rw [e.1]; rfl), by rw [e.2]; exact ⟨_, _, _, _, _, _, _, _, _, by first | rfl | (simp only [diskT, pushD, cutD1, Int.toNat_natCast, List.map_append, List.map_cons, List.map_nil, DeedD.cs]; rfl)⟩⟩) | (have e := app_no (i := 2) h16 h21 h27 h70; exact ⟨by first | rfl | (rw [e.1]; done) | (rw [e.1]; rfl), by rw [e.2]; exact ⟨_, _, _, _, _, _, _, _, _, by first | rfl | (simp only [diskT, pushD, cutD1, Int.toNat_natCast, List.map_append, List.map_cons, List.map_nil, DeedD.cs]; rfl)⟩⟩)
        · (try simp only [decide_eq_true_eq, decide_eq_false_iff_not, beq_iff_eq, beq_eq_false_iff_ne, bne_iff_ne, bne_eq_false_iff_eq, Bool.not_eq_true', Bool.not_eq_false', ne_eq, Bool.not_eq_eq_eq_not, Bool.not_true, Bool.not_false, gt_iff_lt, ge_iff_le, Bool.not_not] at h70)
          refine AW.skip ?_
          change AW _ _ _ _ _
          refine AW.seq ?_
          refine AW.region ?_
          refine AL.r (rd_assign rfl rfl) ?_
          refine AL.nil ?_
          change AW _ _ _ _ _
          refine AW.ret ?_
          repeat with_reducible first | refine thenA_ret ?_ | refine inBlockA_ret ?_
          with_reducible first | refine retO_ret ?_ | refine retO_normal ?_
          refine reso1 rfl (Nat.le_of_ble_eq_true rfl) (by simp only [cleanS, cle_owM, cle_own, cle_nown, cle_obj, cle_off, cle_box, okC, liveA, List.take_succ_cons, List.take_zero, List.all_cons, List.all_nil, List.getElem?_cons_zero, List.getElem?_cons_succ, isO_owM, isO_own, isO_nown, TC.isB, beq_self_eq_true, Bool.and_self, Bool.and_true, ok1, ok2, List.map_cons, List.map_nil]) (ResV.tmp rfl) rfl (by simp only [cleanS, cle_owM, cle_own, cle_nown, cle_obj, cle_off, cle_box, okC, liveA, List.take_succ_cons, List.take_zero, List.all_cons, List.all_nil, List.getElem?_cons_zero, List.getElem?_cons_succ, isO_owM, isO_own, isO_nown, TC.isB, beq_self_eq_true, Bool.and_self, Bool.and_true, ok1, ok2, List.map_cons, List.map_nil]) ?_
          first | (have e := app_dark (b := b) (i := 2) h16; exact ⟨by first | rfl | (rw [e.1]; done) | (rw [e.1]; rfl), by rw [e.2]; exact ⟨_, _, _, _, _, _, _, _, _, by first | rfl | (simp only [diskT, pushD, cutD1, Int.toNat_natCast, List.map_append, List.map_cons, List.map_nil, DeedD.cs]; rfl)⟩⟩) | (have e := app_full (i := 2) h16 h21; exact ⟨by first | rfl | (rw [e.1]; done) | (rw [e.1]; rfl), by rw [e.2]; exact ⟨_, _, _, _, _, _, _, _, _, by first | rfl | (simp only [diskT, pushD, cutD1, Int.toNat_natCast, List.map_append, List.map_cons, List.map_nil, DeedD.cs]; rfl)⟩⟩) | (have e := app_go (i := 2) h16 h21 h27 h70; exact ⟨by first | rfl | (rw [e.1]; done) | (rw [e.1]; rfl), by rw [e.2]; exact ⟨_, _, _, _, _, _, _, _, _, by first | rfl | (simp only [diskT, pushD, cutD1, Int.toNat_natCast, List.map_append, List.map_cons, List.map_nil, DeedD.cs]; rfl)⟩⟩) | (have e := app_no (i := 2) h16 h21 h27 h70; exact ⟨by first | rfl | (rw [e.1]; done) | (rw [e.1]; rfl), by rw [e.2]; exact ⟨_, _, _, _, _, _, _, _, _, by first | rfl | (simp only [diskT, pushD, cutD1, Int.toNat_natCast, List.map_append, List.map_cons, List.map_nil, DeedD.cs]; rfl)⟩⟩)
theorem cut_c2 (n : Int) (h : d.Fit) : ACo Try.prog 26 [.bx 0 g 0, .sc (.int .i64 2), .sc (.int .i64 n)] (diskT g g1 g2 g3 g4 g5 g6 g7 g8 g9 d)
    (fun y os' => y = .sc (.int .i64 (cutR d 2 n)) ∧ DiskAt g (cutD d 2 n) os') := by
  have hbn := burnN_le (n := 1) h (by omega)
  have hw := h.w
  have hnn := h.n 2
  have hqq := h.q
  refine ACo.of (t0 := [.bx 0 g 0, .sc (.int .i64 2), .sc (.int .i64 n), AV.sc undef, AV.sc undef, AV.sc undef, AV.sc undef, AV.sc undef, AV.sc undef, AV.sc undef, AV.sc undef, AV.sc undef, AV.sc undef, AV.sc undef, AV.sc undef, AV.sc undef, AV.sc undef, AV.sc undef, AV.sc undef, AV.sc undef, AV.sc undef, AV.sc undef, AV.sc undef, AV.sc undef, AV.sc undef, AV.sc undef, AV.sc undef, AV.sc undef, AV.sc undef, AV.sc undef, AV.sc undef, AV.sc undef, AV.sc undef, AV.sc undef, AV.sc undef, AV.sc undef, AV.sc undef, AV.sc undef, AV.sc undef, AV.sc undef, AV.sc undef, AV.sc undef, AV.sc undef, AV.sc undef, AV.sc undef, AV.sc undef, AV.sc undef, AV.sc undef, AV.sc undef, AV.sc undef, AV.sc undef, AV.sc undef, AV.sc undef, AV.sc undef, AV.sc undef, AV.sc undef, AV.sc undef, AV.sc undef, AV.sc undef, AV.sc undef, AV.sc undef, AV.sc undef, AV.sc undef, AV.sc undef, AV.sc undef, AV.sc undef, AV.sc undef, AV.sc undef]) (st0 := [⟨g, .box 99 [.sc (.int .i64 d.room), .ow 1 g1, .ow 2 g2, .ow 3 g3, .ow 4 g4, .ow 5 g5, .ow 6 g6, .ow 7 g7, .ow 8 g8, .ow 9 g9, .sc (.int .i64 d.waits), .sc (.int .i64 d.done), .sc (.bool d.fused), .sc (.int .i64 d.fuse), .sc (.bool d.dark)]⟩, ⟨g1, owM (d.nf 0) 5 1 (byA (d.n 0))⟩, ⟨g2, owM (d.nf 1) 5 1 (byA (d.n 1))⟩, ⟨g3, owM (d.nf 2) 5 1 (byA (d.n 2))⟩, ⟨g4, owM (d.nf 3) 5 1 (byA (d.n 3))⟩, ⟨g5, owM (d.lf 0) 5 1 (byA (d.l 0))⟩, ⟨g6, owM (d.lf 1) 5 1 (byA (d.l 1))⟩, ⟨g7, owM (d.lf 2) 5 1 (byA (d.l 2))⟩, ⟨g8, owM (d.lf 3) 5 1 (byA (d.l 3))⟩, ⟨g9, owM true 102 4 (d.q.map DeedD.cs)⟩, TK.mk 0 .off, TK.mk 0 .off]) 2 Try.func26 rfl rfl rfl 10 rfl ?_
  refine AW.seq ?_
  refine AW.region ?_
  refine AL.r (rd_assign rfl rfl) ?_
  refine AL.nil ?_
  change AW _ _ _ _ _
  refine AW.seq ?_
  refine AW.seq ?_
  refine AW.region ?_
  refine AL.r (rd_move rfl rfl) ?_
  refine AL.r (rd_peq_bx rfl pt_25 rfl rfl rfl) ?_
  refine AL.nil ?_
  change AW _ _ _ _ _
  refine AW.cond_f rfl ?_
  refine AW.skip ?_
  change AW _ _ _ _ _
  refine AW.seq ?_
  refine AW.seq ?_
  refine AW.region ?_
  refine AL.r (rd_move rfl rfl) ?_
  refine AL.op rfl (AOpB.op (op_call (right_in (by decide)) rfl (by kernel_rfl) rfl (none) ?_))
  rintro r rfl
  refine AL.no ?_
  refine AL.r (rd_un rfl rfl (fun _ => rfl)) ?_
  refine AL.r (rd_move rfl rfl) ?_
  refine AL.ro (rd_move rfl rfl) ?_
  refine AL.ro (rd_bin rfl rfl rfl (fun _ => rfl)) ?_
  refine AL.r (rd_pick_f rfl rfl rfl) ?_
  refine AL.r (rd_move rfl rfl) ?_
  refine AL.fork (d := 16) rfl (fun h16 => ?_) (fun h16 => ?_)
  · (try simp only [decide_eq_true_eq, decide_eq_false_iff_not, beq_iff_eq, beq_eq_false_iff_ne, bne_iff_ne, bne_eq_false_iff_eq, Bool.not_eq_true', Bool.not_eq_false', ne_eq, Bool.not_eq_eq_eq_not, Bool.not_true, Bool.not_false, gt_iff_lt, ge_iff_le, Bool.not_not] at h16)
    refine AL.n ?_
    refine AL.rf ?_
    refine AL.rf ?_
    refine AL.rf ?_
    refine AL.rf ?_
    refine AL.rf ?_
    refine AL.rf ?_
    refine AL.rf ?_
    refine AL.rf ?_
    refine AL.rf ?_
    refine AL.r (rd_pick_t rfl rfl rfl) ?_
    refine AL.nil ?_
    change AW _ _ _ _ _
    refine AW.cond_t rfl ?_
    refine AW.seq ?_
    refine AW.region ?_
    refine AL.r (rd_assign rfl rfl) ?_
    refine AL.nil ?_
    change AW _ _ _ _ _
    refine AW.ret ?_
    repeat with_reducible first | refine thenA_ret ?_ | refine inBlockA_ret ?_
    with_reducible first | refine retO_ret ?_ | refine retO_normal ?_
    refine reso1 rfl (Nat.le_of_ble_eq_true rfl) (by simp only [cleanS, cle_owM, cle_own, cle_nown, cle_obj, cle_off, cle_box, okC, liveA, List.take_succ_cons, List.take_zero, List.all_cons, List.all_nil, List.getElem?_cons_zero, List.getElem?_cons_succ, isO_owM, isO_own, isO_nown, TC.isB, beq_self_eq_true, Bool.and_self, Bool.and_true, ok1, ok2, List.map_cons, List.map_nil]) (ResV.tmp rfl) rfl (by simp only [cleanS, cle_owM, cle_own, cle_nown, cle_obj, cle_off, cle_box, okC, liveA, List.take_succ_cons, List.take_zero, List.all_cons, List.all_nil, List.getElem?_cons_zero, List.getElem?_cons_succ, isO_owM, isO_own, isO_nown, TC.isB, beq_self_eq_true, Bool.and_self, Bool.and_true, ok1, ok2, List.map_cons, List.map_nil]) ?_
    first | (have e := cut_arg (d := d) (i := 2) (.inl h16); exact ⟨by first | rfl | (rw [e.1]; done) | (rw [e.1]; rfl), by rw [e.2]; exact ⟨_, _, _, _, _, _, _, _, _, by first | rfl | (simp only [diskT, pushD, cutD1, Int.toNat_natCast, List.map_append, List.map_cons, List.map_nil, DeedD.cs]; rfl)⟩⟩) | (have e := cut_arg (d := d) (i := 2) (.inr h26); exact ⟨by first | rfl | (rw [e.1]; done) | (rw [e.1]; rfl), by rw [e.2]; exact ⟨_, _, _, _, _, _, _, _, _, by first | rfl | (simp only [diskT, pushD, cutD1, Int.toNat_natCast, List.map_append, List.map_cons, List.map_nil, DeedD.cs]; rfl)⟩⟩) | (have e := cut_dark (d := d) (i := 2) h16 h26 h31; exact ⟨by first | rfl | (rw [e.1]; done) | (rw [e.1]; rfl), by rw [e.2]; exact ⟨_, _, _, _, _, _, _, _, _, by first | rfl | (simp only [diskT, pushD, cutD1, Int.toNat_natCast, List.map_append, List.map_cons, List.map_nil, DeedD.cs]; rfl)⟩⟩) | (have e := cut_burn (d := d) (i := 2) h16 h26 h31 h35; exact ⟨by first | rfl | (rw [e.1]; done) | (rw [e.1]; rfl), by rw [e.2]; exact ⟨_, _, _, _, _, _, _, _, _, by first | rfl | (simp only [diskT, pushD, cutD1, Int.toNat_natCast, List.map_append, List.map_cons, List.map_nil, DeedD.cs]; rfl)⟩⟩) | (have e := cut_go (d := d) (i := 2) h16 h26 h31 h35; exact ⟨by first | rfl | (rw [e.1]; done) | (rw [e.1]; rfl), by rw [e.2]; exact ⟨_, _, _, _, _, _, _, _, _, by first | rfl | (simp only [diskT, pushD, cutD1, Int.toNat_natCast, List.map_append, List.map_cons, List.map_nil, DeedD.cs]; rfl)⟩⟩)
  · (try simp only [decide_eq_true_eq, decide_eq_false_iff_not, beq_iff_eq, beq_eq_false_iff_ne, bne_iff_ne, bne_eq_false_iff_eq, Bool.not_eq_true', Bool.not_eq_false', ne_eq, Bool.not_eq_eq_eq_not, Bool.not_true, Bool.not_false, gt_iff_lt, ge_iff_le, Bool.not_not] at h16)
    refine AL.n ?_
    refine AL.ro (rd_move rfl rfl) ?_
    refine AL.ro (rd_move rfl rfl) ?_
    refine AL.ro (rd_move rfl rfl) ?_
    refine AL.ro (rd_nilc_bx rfl rfl rfl) ?_
    refine AL.ro (rd_faddr_bx rfl fo_99_1 rfl rfl ⟨_, _, rfl⟩) ?_
    refine AL.ro (rd_iaddr_bx (i := 2) rfl ar_37 rfl rfl rfl (by first | rfl | omega) (by decide)) ?_
    refine AL.ro (rd_load_bx rfl ag_29 rfl rfl rfl) ?_
    refine AL.ro (rd_len_owM rfl el_29 rfl rfl) ?_
    refine AL.ro (rd_bin rfl rfl rfl (fun _ => rfl)) ?_
    refine AL.r (rd_pick_f rfl rfl rfl) ?_
    refine AL.nil ?_
    change AW _ _ _ _ _
    refine AW.cond rfl (fun h26 => ?_) (fun h26 => ?_)
    · (try simp only [decide_eq_true_eq, decide_eq_false_iff_not, beq_iff_eq, beq_eq_false_iff_ne, bne_iff_ne, bne_eq_false_iff_eq, Bool.not_eq_true', Bool.not_eq_false', ne_eq, Bool.not_eq_eq_eq_not, Bool.not_true, Bool.not_false, gt_iff_lt, ge_iff_le, Bool.not_not] at h26)
      refine AW.seq ?_
      refine AW.region ?_
      refine AL.r (rd_assign rfl rfl) ?_
      refine AL.nil ?_
      change AW _ _ _ _ _
      refine AW.ret ?_
      repeat with_reducible first | refine thenA_ret ?_ | refine inBlockA_ret ?_
      with_reducible first | refine retO_ret ?_ | refine retO_normal ?_
      refine reso1 rfl (Nat.le_of_ble_eq_true rfl) (by simp only [cleanS, cle_owM, cle_own, cle_nown, cle_obj, cle_off, cle_box, okC, liveA, List.take_succ_cons, List.take_zero, List.all_cons, List.all_nil, List.getElem?_cons_zero, List.getElem?_cons_succ, isO_owM, isO_own, isO_nown, TC.isB, beq_self_eq_true, Bool.and_self, Bool.and_true, ok1, ok2, List.map_cons, List.map_nil]) (ResV.tmp rfl) rfl (by simp only [cleanS, cle_owM, cle_own, cle_nown, cle_obj, cle_off, cle_box, okC, liveA, List.take_succ_cons, List.take_zero, List.all_cons, List.all_nil, List.getElem?_cons_zero, List.getElem?_cons_succ, isO_owM, isO_own, isO_nown, TC.isB, beq_self_eq_true, Bool.and_self, Bool.and_true, ok1, ok2, List.map_cons, List.map_nil]) ?_
      first | (have e := cut_arg (d := d) (i := 2) (.inl h16); exact ⟨by first | rfl | (rw [e.1]; done) | (rw [e.1]; rfl), by rw [e.2]; exact ⟨_, _, _, _, _, _, _, _, _, by first | rfl | (simp only [diskT, pushD, cutD1, Int.toNat_natCast, List.map_append, List.map_cons, List.map_nil, DeedD.cs]; rfl)⟩⟩) | (have e := cut_arg (d := d) (i := 2) (.inr h26); exact ⟨by first | rfl | (rw [e.1]; done) | (rw [e.1]; rfl), by rw [e.2]; exact ⟨_, _, _, _, _, _, _, _, _, by first | rfl | (simp only [diskT, pushD, cutD1, Int.toNat_natCast, List.map_append, List.map_cons, List.map_nil, DeedD.cs]; rfl)⟩⟩) | (have e := cut_dark (d := d) (i := 2) h16 h26 h31; exact ⟨by first | rfl | (rw [e.1]; done) | (rw [e.1]; rfl), by rw [e.2]; exact ⟨_, _, _, _, _, _, _, _, _, by first | rfl | (simp only [diskT, pushD, cutD1, Int.toNat_natCast, List.map_append, List.map_cons, List.map_nil, DeedD.cs]; rfl)⟩⟩) | (have e := cut_burn (d := d) (i := 2) h16 h26 h31 h35; exact ⟨by first | rfl | (rw [e.1]; done) | (rw [e.1]; rfl), by rw [e.2]; exact ⟨_, _, _, _, _, _, _, _, _, by first | rfl | (simp only [diskT, pushD, cutD1, Int.toNat_natCast, List.map_append, List.map_cons, List.map_nil, DeedD.cs]; rfl)⟩⟩) | (have e := cut_go (d := d) (i := 2) h16 h26 h31 h35; exact ⟨by first | rfl | (rw [e.1]; done) | (rw [e.1]; rfl), by rw [e.2]; exact ⟨_, _, _, _, _, _, _, _, _, by first | rfl | (simp only [diskT, pushD, cutD1, Int.toNat_natCast, List.map_append, List.map_cons, List.map_nil, DeedD.cs]; rfl)⟩⟩)
    · (try simp only [decide_eq_true_eq, decide_eq_false_iff_not, beq_iff_eq, beq_eq_false_iff_ne, bne_iff_ne, bne_eq_false_iff_eq, Bool.not_eq_true', Bool.not_eq_false', ne_eq, Bool.not_eq_eq_eq_not, Bool.not_true, Bool.not_false, gt_iff_lt, ge_iff_le, Bool.not_not] at h26)
      refine AW.skip ?_
      change AW _ _ _ _ _
      refine AW.seq ?_
      refine AW.seq ?_
      refine AW.region ?_
      obtain ⟨m, rfl⟩ : ∃ m : Nat, n = (m : Int) := ⟨n.toNat, (by omega)⟩
      refine AL.r (rd_move rfl rfl) ?_
      refine AL.r (rd_nilc_bx rfl rfl rfl) ?_
      refine AL.r (rd_faddr_bx rfl fo_99_8 rfl rfl ⟨_, _, rfl⟩) ?_
      refine AL.r (rd_load_bx rfl ag_4 rfl rfl rfl) ?_
      refine AL.r (rd_move rfl rfl) ?_
      refine AL.fork (d := 31) rfl (fun h31 => ?_) (fun h31 => ?_)
      · (try simp only [decide_eq_true_eq, decide_eq_false_iff_not, beq_iff_eq, beq_eq_false_iff_ne, bne_iff_ne, bne_eq_false_iff_eq, Bool.not_eq_true', Bool.not_eq_false', ne_eq, Bool.not_eq_eq_eq_not, Bool.not_true, Bool.not_false, gt_iff_lt, ge_iff_le, Bool.not_not] at h31)
        refine AL.n ?_
        refine AL.rf ?_
        refine AL.rf ?_
        refine AL.rf ?_
        refine AL.r (rd_pick_t rfl rfl rfl) ?_
        refine AL.nil ?_
        change AW _ _ _ _ _
        refine AW.cond_t rfl ?_
        refine AW.seq ?_
        refine AW.region ?_
        refine AL.r (rd_assign rfl rfl) ?_
        refine AL.nil ?_
        change AW _ _ _ _ _
        refine AW.ret ?_
        repeat with_reducible first | refine thenA_ret ?_ | refine inBlockA_ret ?_
        with_reducible first | refine retO_ret ?_ | refine retO_normal ?_
        refine reso1 rfl (Nat.le_of_ble_eq_true rfl) (by simp only [cleanS, cle_owM, cle_own, cle_nown, cle_obj, cle_off, cle_box, okC, liveA, List.take_succ_cons, List.take_zero, List.all_cons, List.all_nil, List.getElem?_cons_zero, List.getElem?_cons_succ, isO_owM, isO_own, isO_nown, TC.isB, beq_self_eq_true, Bool.and_self, Bool.and_true, ok1, ok2, List.map_cons, List.map_nil]) (ResV.tmp rfl) rfl (by simp only [cleanS, cle_owM, cle_own, cle_nown, cle_obj, cle_off, cle_box, okC, liveA, List.take_succ_cons, List.take_zero, List.all_cons, List.all_nil, List.getElem?_cons_zero, List.getElem?_cons_succ, isO_owM, isO_own, isO_nown, TC.isB, beq_self_eq_true, Bool.and_self, Bool.and_true, ok1, ok2, List.map_cons, List.map_nil]) ?_
        first | (have e := cut_arg (d := d) (i := 2) (.inl h16); exact ⟨by first | rfl | (rw [e.1]; done) | (rw [e.1]; rfl), by rw [e.2]; exact ⟨_, _, _, _, _, _, _, _, _, by first | rfl | (simp only [diskT, pushD, cutD1, Int.toNat_natCast, List.map_append, List.map_cons, List.map_nil, DeedD.cs]; rfl)⟩⟩) | (have e := cut_arg (d := d) (i := 2) (.inr h26); exact ⟨by first | rfl | (rw [e.1]; done) | (rw [e.1]; rfl), by rw [e.2]; exact ⟨_, _, _, _, _, _, _, _, _, by first | rfl | (simp only [diskT, pushD, cutD1, Int.toNat_natCast, List.map_append, List.map_cons, List.map_nil, DeedD.cs]; rfl)⟩⟩) | (have e := cut_dark (d := d) (i := 2) h16 h26 h31; exact ⟨by first | rfl | (rw [e.1]; done) | (rw [e.1]; rfl), by rw [e.2]; exact ⟨_, _, _, _, _, _, _, _, _, by first | rfl | (simp only [diskT, pushD, cutD1, Int.toNat_natCast, List.map_append, List.map_cons, List.map_nil, DeedD.cs]; rfl)⟩⟩) | (have e := cut_burn (d := d) (i := 2) h16 h26 h31 h35; exact ⟨by first | rfl | (rw [e.1]; done) | (rw [e.1]; rfl), by rw [e.2]; exact ⟨_, _, _, _, _, _, _, _, _, by first | rfl | (simp only [diskT, pushD, cutD1, Int.toNat_natCast, List.map_append, List.map_cons, List.map_nil, DeedD.cs]; rfl)⟩⟩) | (have e := cut_go (d := d) (i := 2) h16 h26 h31 h35; exact ⟨by first | rfl | (rw [e.1]; done) | (rw [e.1]; rfl), by rw [e.2]; exact ⟨_, _, _, _, _, _, _, _, _, by first | rfl | (simp only [diskT, pushD, cutD1, Int.toNat_natCast, List.map_append, List.map_cons, List.map_nil, DeedD.cs]; rfl)⟩⟩)
      · (try simp only [decide_eq_true_eq, decide_eq_false_iff_not, beq_iff_eq, beq_eq_false_iff_ne, bne_iff_ne, bne_eq_false_iff_eq, Bool.not_eq_true', Bool.not_eq_false', ne_eq, Bool.not_eq_eq_eq_not, Bool.not_true, Bool.not_false, gt_iff_lt, ge_iff_le, Bool.not_not] at h31)
        refine AL.n ?_
        refine AL.ro (rd_move rfl rfl) ?_
        refine AL.on rfl rfl rfl (op_callo (burn_c d g g1 g2 g3 g4 g5 g6 g7 g8 g9 1 h.fuse (by omega)) rfl (by kernel_rfl) [0, 1, 2, 3, 4, 5, 6, 7, 8, 9] (by decide) (by simp only [diskT, List.map_cons, List.map_nil, renT, renC_owM, renC_box, renC_own, renC_nown, renC_obj, renC_off, ren0, List.getD_cons_zero, List.getD_cons_succ]; exact ⟨rfl, rfl, rfl, rfl, rfl, rfl, rfl, rfl, rfl, rfl, trivial⟩) rfl (by simp only [diskT, cleanS, cle_owM, cle_own, cle_nown, cle_obj, cle_off, cle_box, okC, liveA, List.take_succ_cons, List.take_zero, List.all_cons, List.all_nil, List.getElem?_cons_zero, List.getElem?_cons_succ, isO_owM, isO_own, isO_nown, TC.isB, beq_self_eq_true, Bool.and_self, Bool.and_true, ok1, ok2, List.map_cons, List.map_nil]) (by simp only [diskT, cleanS, cle_owM, cle_own, cle_nown, cle_obj, cle_off, cle_box, okC, liveA, List.take_succ_cons, List.take_zero, List.all_cons, List.all_nil, List.getElem?_cons_zero, List.getElem?_cons_succ, isO_owM, isO_own, isO_nown, TC.isB, beq_self_eq_true, Bool.and_self, Bool.and_true, ok1, ok2, List.map_cons, List.map_nil]) ?_)
        rintro y os' ⟨rfl, rfl⟩
        refine AL.no ?_ (by (try simp only [diskT, putA, evA, List.getD_cons_zero, List.getD_cons_succ, List.set_cons_zero, List.set_cons_succ, List.length_map, KR, splA, List.map_cons, List.map_nil, List.length_append, List.length_cons, List.length_nil, List.drop_zero, csS_len, csS_take, csS_drop, csS_app, byA_len, byA_take, byA_drop, byA_app, ← List.map_take, ← List.map_drop, ← List.map_append, List.take_succ_cons, List.take_zero, List.drop_succ_cons, List.cons_append, List.nil_append, Nat.zero_add, Nat.reduceAdd, Nat.reduceMul, Nat.add_zero, Nat.mul_one, putT, renT, renC_owM, renC_box, renC_own, renC_nown, renC_obj, renC_off, ren2, ren1, ren0, ok1, ok2]); (try rfl)) (by (try simp only [diskT, putA, evA, List.getD_cons_zero, List.getD_cons_succ, List.set_cons_zero, List.set_cons_succ, List.length_map, KR, splA, List.map_cons, List.map_nil, List.length_append, List.length_cons, List.length_nil, List.drop_zero, csS_len, csS_take, csS_drop, csS_app, byA_len, byA_take, byA_drop, byA_app, ← List.map_take, ← List.map_drop, ← List.map_append, List.take_succ_cons, List.take_zero, List.drop_succ_cons, List.cons_append, List.nil_append, Nat.zero_add, Nat.reduceAdd, Nat.reduceMul, Nat.add_zero, Nat.mul_one, putT, renT, renC_owM, renC_box, renC_own, renC_nown, renC_obj, renC_off, ren2, ren1, ren0, ok1, ok2]); (try rfl))
        refine AL.ro (rd_bin rfl rfl rfl (fun _ => rfl)) ?_
        refine AL.r (rd_pick_f rfl rfl rfl) ?_
        refine AL.nil ?_
        change AW _ _ _ _ _
        refine AW.cond rfl (fun h35 => ?_) (fun h35 => ?_)
        · (try simp only [decide_eq_true_eq, decide_eq_false_iff_not, beq_iff_eq, beq_eq_false_iff_ne, bne_iff_ne, bne_eq_false_iff_eq, Bool.not_eq_true', Bool.not_eq_false', ne_eq, Bool.not_eq_eq_eq_not, Bool.not_true, Bool.not_false, gt_iff_lt, ge_iff_le, Bool.not_not] at h35)
          refine AW.seq ?_
          refine AW.region ?_
          refine AL.r (rd_assign rfl rfl) ?_
          refine AL.nil ?_
          change AW _ _ _ _ _
          refine AW.ret ?_
          repeat with_reducible first | refine thenA_ret ?_ | refine inBlockA_ret ?_
          with_reducible first | refine retO_ret ?_ | refine retO_normal ?_
          refine reso1 rfl (Nat.le_of_ble_eq_true rfl) (by simp only [cleanS, cle_owM, cle_own, cle_nown, cle_obj, cle_off, cle_box, okC, liveA, List.take_succ_cons, List.take_zero, List.all_cons, List.all_nil, List.getElem?_cons_zero, List.getElem?_cons_succ, isO_owM, isO_own, isO_nown, TC.isB, beq_self_eq_true, Bool.and_self, Bool.and_true, ok1, ok2, List.map_cons, List.map_nil]) (ResV.tmp rfl) rfl (by simp only [cleanS, cle_owM, cle_own, cle_nown, cle_obj, cle_off, cle_box, okC, liveA, List.take_succ_cons, List.take_zero, List.all_cons, List.all_nil, List.getElem?_cons_zero, List.getElem?_cons_succ, isO_owM, isO_own, isO_nown, TC.isB, beq_self_eq_true, Bool.and_self, Bool.and_true, ok1, ok2, List.map_cons, List.map_nil]) ?_
          first | (have e := cut_arg (d := d) (i := 2) (.inl h16); exact ⟨by first | rfl | (rw [e.1]; done) | (rw [e.1]; rfl), by rw [e.2]; exact ⟨_, _, _, _, _, _, _, _, _, by first | rfl | (simp only [diskT, pushD, cutD1, Int.toNat_natCast, List.map_append, List.map_cons, List.map_nil, DeedD.cs]; rfl)⟩⟩) | (have e := cut_arg (d := d) (i := 2) (.inr h26); exact ⟨by first | rfl | (rw [e.1]; done) | (rw [e.1]; rfl), by rw [e.2]; exact ⟨_, _, _, _, _, _, _, _, _, by first | rfl | (simp only [diskT, pushD, cutD1, Int.toNat_natCast, List.map_append, List.map_cons, List.map_nil, DeedD.cs]; rfl)⟩⟩) | (have e := cut_dark (d := d) (i := 2) h16 h26 h31; exact ⟨by first | rfl | (rw [e.1]; done) | (rw [e.1]; rfl), by rw [e.2]; exact ⟨_, _, _, _, _, _, _, _, _, by first | rfl | (simp only [diskT, pushD, cutD1, Int.toNat_natCast, List.map_append, List.map_cons, List.map_nil, DeedD.cs]; rfl)⟩⟩) | (have e := cut_burn (d := d) (i := 2) h16 h26 h31 h35; exact ⟨by first | rfl | (rw [e.1]; done) | (rw [e.1]; rfl), by rw [e.2]; exact ⟨_, _, _, _, _, _, _, _, _, by first | rfl | (simp only [diskT, pushD, cutD1, Int.toNat_natCast, List.map_append, List.map_cons, List.map_nil, DeedD.cs]; rfl)⟩⟩) | (have e := cut_go (d := d) (i := 2) h16 h26 h31 h35; exact ⟨by first | rfl | (rw [e.1]; done) | (rw [e.1]; rfl), by rw [e.2]; exact ⟨_, _, _, _, _, _, _, _, _, by first | rfl | (simp only [diskT, pushD, cutD1, Int.toNat_natCast, List.map_append, List.map_cons, List.map_nil, DeedD.cs]; rfl)⟩⟩)
        · (try simp only [decide_eq_true_eq, decide_eq_false_iff_not, beq_iff_eq, beq_eq_false_iff_ne, bne_iff_ne, bne_eq_false_iff_eq, Bool.not_eq_true', Bool.not_eq_false', ne_eq, Bool.not_eq_eq_eq_not, Bool.not_true, Bool.not_false, gt_iff_lt, ge_iff_le, Bool.not_not] at h35)
          refine AW.skip ?_
          change AW _ _ _ _ _
          refine AW.seq ?_
          apply AW.drawS (by kernel_rfl)
          · skip
            refine ADA.r 0 rfl (ARdP.a (rdP_move rfl rfl)) rfl ?_
            refine ADA.r 1 rfl (ARdP.a (rdP_move rfl rfl)) rfl ?_
            refine ADA.r 2 rfl (ARdP.a (rdP_move rfl rfl)) rfl ?_
            refine ADA.r 3 rfl (ARdP.a (rdP_move rfl rfl)) rfl ?_
            refine ADA.r 4 rfl (ARdP.a (rdP_nilc_bx rfl rfl rfl)) rfl ?_
            refine ADA.r 5 rfl (ARdP.a (rdP_faddr_bx rfl fo_99_1 rfl rfl ⟨_, _, rfl⟩)) rfl ?_
            refine ADA.r 6 rfl (ARdP.a (rdP_iaddr_bx (i := 2) rfl ar_37 rfl rfl rfl (by first | rfl | omega) (by decide))) rfl ?_
            refine ADA.r 8 rfl (ARdP.a (rdP_move rfl rfl)) rfl ?_
            refine ADA.r 10 rfl (ARdP.a (rdP_nilc_bx rfl rfl rfl)) rfl ?_
            refine ADA.r 11 rfl (ARdP.a (rdP_faddr_bx rfl fo_99_1 rfl rfl ⟨_, _, rfl⟩)) rfl ?_
            refine ADA.b ?_
            refine ADB.move 7 rfl (by kernel_rfl) rfl (AOpB.op (ARd.opB (rd_load_bx rfl ag_29 rfl rfl rfl) ?_))
            refine ADB.n ?_
            refine ADB.move 9 rfl (by kernel_rfl) rfl (AOpB.op (op_sliceM (n := m) rfl el_29 rfl rfl rfl rfl (by simp only [byA_len, burnD]; omega) ?_))
            refine ADB.n ?_
            refine ADB.r 12 rfl (rdP_iaddr_bx (i := 2) rfl ar_37 rfl rfl rfl (by first | rfl | omega) (by decide)) rfl ?_
            refine ADB.move 13 rfl (by kernel_rfl) rfl (op_store rfl rfl rfl rfl rfl (by first | exact live_owM rfl | exact live_own rfl | exact live_nown rfl | rfl) sz_29 (Nat.le_of_ble_eq_true rfl) ?_)
            refine ADB.n ?_
            refine ADB.done (by kernel_rfl) ?_
            exact ⟨rfl, rfl⟩
          skip
          change AW _ _ _ _ _
          refine AW.seq ?_
          refine AW.region ?_
          refine AL.r (rd_move rfl rfl) ?_
          refine AL.r (rd_move rfl rfl) ?_
          refine AL.r (rd_nilc_bx rfl rfl rfl) ?_
          refine AL.r (rd_faddr_bx rfl fo_99_3 rfl rfl ⟨_, _, rfl⟩) ?_
          refine AL.r (rd_load_bx rfl ag_97 rfl rfl rfl) ?_
          refine AL.r (rd_move rfl rfl) ?_
          refine AL.r (rd_move rfl rfl) ?_
          refine AL.r (rd_build rfl pl_102 ze_102 rfl rfl) ?_
          refine AL.op rfl (AOpB.op (bs_set rfl ap_97 ze_102 rfl rfl ?_))
          refine AL.no ?_
          refine AL.op rfl (op_appendM rfl ap_97 rfl rfl (src_sl rfl (by first | exact csS_one | exact byA_one | (intro cs hcs; obtain rfl := List.mem_singleton.1 hcs; rfl) | (intro cs hcs; obtain ⟨_, _, rfl⟩ := List.mem_map.1 hcs; rfl) | simp)) (by simp [burnD]; omega) (by simp [burnD]; omega) ?_)
          refine AL.no ?_
          refine AL.r (rd_nilc_bx rfl rfl rfl) ?_
          refine AL.r (rd_faddr_bx rfl fo_99_3 rfl rfl ⟨_, _, rfl⟩) ?_
          refine AL.op rfl (op_store rfl rfl rfl rfl rfl (by first | exact live_owM rfl | exact live_own rfl | exact live_nown rfl | rfl) sz_97 (Nat.le_of_ble_eq_true rfl) ?_)
          refine AL.no ?_
          refine AL.nil ?_
          change AW _ _ _ _ _
          refine AW.seq ?_
          refine AW.region ?_
          refine AL.r (rd_move rfl rfl) ?_
          refine AL.r (rd_nilc_bx rfl rfl rfl) ?_
          refine AL.r (rd_faddr_bx rfl fo_99_4 rfl rfl ⟨_, _, rfl⟩) ?_
          refine AL.r (rd_load_bx rfl ag_3 rfl rfl rfl) ?_
          refine AL.r (rd_arith_add rfl rfl rfl (IntWalk.i64_in _ (by simp only [burnD]; omega))) ?_
          refine AL.r (rd_nilc_bx rfl rfl rfl) ?_
          refine AL.r (rd_faddr_bx rfl fo_99_4 rfl rfl ⟨_, _, rfl⟩) ?_
          refine AL.op rfl (op_store rfl rfl rfl rfl rfl rfl sz_3 (Nat.le_of_ble_eq_true rfl) ?_)
          refine AL.no ?_
          refine AL.nil ?_
          change AW _ _ _ _ _
          refine AW.seq ?_
          refine AW.region ?_
          refine AL.r (rd_assign rfl rfl) ?_
          refine AL.nil ?_
          change AW _ _ _ _ _
          refine AW.ret ?_
          repeat with_reducible first | refine thenA_ret ?_ | refine inBlockA_ret ?_
          with_reducible first | refine retO_ret ?_ | refine retO_normal ?_
          refine reso1 rfl (Nat.le_of_ble_eq_true rfl) (by simp only [cleanS, cle_owM, cle_own, cle_nown, cle_obj, cle_off, cle_box, okC, liveA, List.take_succ_cons, List.take_zero, List.all_cons, List.all_nil, List.getElem?_cons_zero, List.getElem?_cons_succ, isO_owM, isO_own, isO_nown, TC.isB, beq_self_eq_true, Bool.and_self, Bool.and_true, ok1, ok2, List.map_cons, List.map_nil]) (ResV.tmp rfl) rfl (by simp only [cleanS, cle_owM, cle_own, cle_nown, cle_obj, cle_off, cle_box, okC, liveA, List.take_succ_cons, List.take_zero, List.all_cons, List.all_nil, List.getElem?_cons_zero, List.getElem?_cons_succ, isO_owM, isO_own, isO_nown, TC.isB, beq_self_eq_true, Bool.and_self, Bool.and_true, ok1, ok2, List.map_cons, List.map_nil]) ?_
          first | (have e := cut_arg (d := d) (i := 2) (.inl h16); exact ⟨by first | rfl | (rw [e.1]; done) | (rw [e.1]; rfl), by rw [e.2]; exact ⟨_, _, _, _, _, _, _, _, _, by first | rfl | (simp only [diskT, pushD, cutD1, Int.toNat_natCast, List.map_append, List.map_cons, List.map_nil, DeedD.cs]; rfl)⟩⟩) | (have e := cut_arg (d := d) (i := 2) (.inr h26); exact ⟨by first | rfl | (rw [e.1]; done) | (rw [e.1]; rfl), by rw [e.2]; exact ⟨_, _, _, _, _, _, _, _, _, by first | rfl | (simp only [diskT, pushD, cutD1, Int.toNat_natCast, List.map_append, List.map_cons, List.map_nil, DeedD.cs]; rfl)⟩⟩) | (have e := cut_dark (d := d) (i := 2) h16 h26 h31; exact ⟨by first | rfl | (rw [e.1]; done) | (rw [e.1]; rfl), by rw [e.2]; exact ⟨_, _, _, _, _, _, _, _, _, by first | rfl | (simp only [diskT, pushD, cutD1, Int.toNat_natCast, List.map_append, List.map_cons, List.map_nil, DeedD.cs]; rfl)⟩⟩) | (have e := cut_burn (d := d) (i := 2) h16 h26 h31 h35; exact ⟨by first | rfl | (rw [e.1]; done) | (rw [e.1]; rfl), by rw [e.2]; exact ⟨_, _, _, _, _, _, _, _, _, by first | rfl | (simp only [diskT, pushD, cutD1, Int.toNat_natCast, List.map_append, List.map_cons, List.map_nil, DeedD.cs]; rfl)⟩⟩) | (have e := cut_go (d := d) (i := 2) h16 h26 h31 h35; exact ⟨by first | rfl | (rw [e.1]; done) | (rw [e.1]; rfl), by rw [e.2]; exact ⟨_, _, _, _, _, _, _, _, _, by first | rfl | (simp only [diskT, pushD, cutD1, Int.toNat_natCast, List.map_append, List.map_cons, List.map_nil, DeedD.cs]; rfl)⟩⟩)
theorem append_c3 (b : List UInt8) (h : d.Fit) (hb : b.length ≤ 1099511627776) : ACo Try.prog 19 [.bx 0 g 0, .sc (.int .i64 3), .sl (byA b)] (diskT g g1 g2 g3 g4 g5 g6 g7 g8 g9 d)
    (fun y os' => y = .sc (.int .i64 (appR d b)) ∧ DiskAt g (appD d 3 b) os') := by
  have hbn := burnN_le (n := b.length) h (by omega)
  have hw := h.w
  have hnn := h.n 3
  have hqq := h.q
  refine ACo.of (t0 := [.bx 0 g 0, .sc (.int .i64 3), .sl (byA b), AV.sc undef, AV.sc undef, AV.sc undef, AV.sc undef, AV.sc undef, AV.sc undef, AV.sc undef, AV.sc undef, AV.sc undef, AV.sc undef, AV.sc undef, AV.sc undef, AV.sc undef, AV.sc undef, AV.sc undef, AV.sc undef, AV.sc undef, AV.sc undef, AV.sc undef, AV.sc undef, AV.sc undef, AV.sc undef, AV.sc undef, AV.sc undef, AV.sc undef, AV.sc undef, AV.sc undef, AV.sc undef, AV.sc undef, AV.sc undef, AV.sc undef, AV.sc undef, AV.sc undef, AV.sc undef, AV.sc undef, AV.sc undef, AV.sc undef, AV.sc undef, AV.sc undef, AV.sc undef, AV.sc undef, AV.sc undef, AV.sc undef, AV.sc undef, AV.sc undef, AV.sc undef, AV.sc undef, AV.sc undef, AV.sc undef, AV.sc undef, AV.sc undef, AV.sc undef, AV.sc undef, AV.sc undef, AV.sc undef, AV.sc undef, AV.sc undef, AV.sc undef, AV.sc undef, AV.sc undef, AV.sc undef, AV.sc undef, AV.sc undef, AV.sc undef, AV.sc undef, AV.sc undef, AV.sc undef, AV.sc undef]) (st0 := [⟨g, .box 99 [.sc (.int .i64 d.room), .ow 1 g1, .ow 2 g2, .ow 3 g3, .ow 4 g4, .ow 5 g5, .ow 6 g6, .ow 7 g7, .ow 8 g8, .ow 9 g9, .sc (.int .i64 d.waits), .sc (.int .i64 d.done), .sc (.bool d.fused), .sc (.int .i64 d.fuse), .sc (.bool d.dark)]⟩, ⟨g1, owM (d.nf 0) 5 1 (byA (d.n 0))⟩, ⟨g2, owM (d.nf 1) 5 1 (byA (d.n 1))⟩, ⟨g3, owM (d.nf 2) 5 1 (byA (d.n 2))⟩, ⟨g4, owM (d.nf 3) 5 1 (byA (d.n 3))⟩, ⟨g5, owM (d.lf 0) 5 1 (byA (d.l 0))⟩, ⟨g6, owM (d.lf 1) 5 1 (byA (d.l 1))⟩, ⟨g7, owM (d.lf 2) 5 1 (byA (d.l 2))⟩, ⟨g8, owM (d.lf 3) 5 1 (byA (d.l 3))⟩, ⟨g9, owM true 102 4 (d.q.map DeedD.cs)⟩, TK.mk 0 .off, TK.mk 0 .off, TK.mk 0 .off, TK.mk 0 .off, TK.mk 0 .off]) 5 Try.func19 rfl rfl rfl 10 rfl ?_
  refine AW.seq ?_
  refine AW.region ?_
  refine AL.r (rd_assign rfl rfl) ?_
  refine AL.nil ?_
  change AW _ _ _ _ _
  refine AW.seq ?_
  refine AW.seq ?_
  refine AW.region ?_
  refine AL.r (rd_move rfl rfl) ?_
  refine AL.r (rd_peq_bx rfl pt_25 rfl rfl rfl) ?_
  refine AL.nil ?_
  change AW _ _ _ _ _
  refine AW.cond_f rfl ?_
  refine AW.skip ?_
  change AW _ _ _ _ _
  refine AW.seq ?_
  refine AW.seq ?_
  refine AW.region ?_
  refine AL.r (rd_move rfl rfl) ?_
  refine AL.op rfl (AOpB.op (op_call (right_in (by decide)) rfl (by kernel_rfl) rfl (none) ?_))
  rintro r rfl
  refine AL.no ?_
  refine AL.r (rd_un rfl rfl (fun _ => rfl)) ?_
  refine AL.nil ?_
  change AW _ _ _ _ _
  refine AW.cond_f rfl ?_
  refine AW.skip ?_
  change AW _ _ _ _ _
  refine AW.seq ?_
  refine AW.seq ?_
  refine AW.region ?_
  refine AL.r (rd_move rfl rfl) ?_
  refine AL.r (rd_nilc_bx rfl rfl rfl) ?_
  refine AL.r (rd_faddr_bx rfl fo_99_8 rfl rfl ⟨_, _, rfl⟩) ?_
  refine AL.r (rd_load_bx rfl ag_4 rfl rfl rfl) ?_
  refine AL.nil ?_
  change AW _ _ _ _ _
  refine AW.cond rfl (fun h16 => ?_) (fun h16 => ?_)
  · (try simp only [decide_eq_true_eq, decide_eq_false_iff_not, beq_iff_eq, beq_eq_false_iff_ne, bne_iff_ne, bne_eq_false_iff_eq, Bool.not_eq_true', Bool.not_eq_false', ne_eq, Bool.not_eq_eq_eq_not, Bool.not_true, Bool.not_false, gt_iff_lt, ge_iff_le, Bool.not_not] at h16)
    refine AW.seq ?_
    refine AW.region ?_
    refine AL.r (rd_assign rfl rfl) ?_
    refine AL.nil ?_
    change AW _ _ _ _ _
    refine AW.ret ?_
    repeat with_reducible first | refine thenA_ret ?_ | refine inBlockA_ret ?_
    with_reducible first | refine retO_ret ?_ | refine retO_normal ?_
    refine reso1 rfl (Nat.le_of_ble_eq_true rfl) (by simp only [cleanS, cle_owM, cle_own, cle_nown, cle_obj, cle_off, cle_box, okC, liveA, List.take_succ_cons, List.take_zero, List.all_cons, List.all_nil, List.getElem?_cons_zero, List.getElem?_cons_succ, isO_owM, isO_own, isO_nown, TC.isB, beq_self_eq_true, Bool.and_self, Bool.and_true, ok1, ok2, List.map_cons, List.map_nil]) (ResV.tmp rfl) rfl (by simp only [cleanS, cle_owM, cle_own, cle_nown, cle_obj, cle_off, cle_box, okC, liveA, List.take_succ_cons, List.take_zero, List.all_cons, List.all_nil, List.getElem?_cons_zero, List.getElem?_cons_succ, isO_owM, isO_own, isO_nown, TC.isB, beq_self_eq_true, Bool.and_self, Bool.and_true, ok1, ok2, List.map_cons, List.map_nil]) ?_
    first | (have e := app_dark (b := b) (i := 3) h16; exact ⟨by first | rfl | (rw [e.1]; done) | (rw [e.1]; rfl), by rw [e.2]; exact ⟨_, _, _, _, _, _, _, _, _, by first | rfl | (simp only [diskT, pushD, cutD1, Int.toNat_natCast, List.map_append, List.map_cons, List.map_nil, DeedD.cs]; rfl)⟩⟩) | (have e := app_full (i := 3) h16 h21; exact ⟨by first | rfl | (rw [e.1]; done) | (rw [e.1]; rfl), by rw [e.2]; exact ⟨_, _, _, _, _, _, _, _, _, by first | rfl | (simp only [diskT, pushD, cutD1, Int.toNat_natCast, List.map_append, List.map_cons, List.map_nil, DeedD.cs]; rfl)⟩⟩) | (have e := app_go (i := 3) h16 h21 h27 h70; exact ⟨by first | rfl | (rw [e.1]; done) | (rw [e.1]; rfl), by rw [e.2]; exact ⟨_, _, _, _, _, _, _, _, _, by first | rfl | (simp only [diskT, pushD, cutD1, Int.toNat_natCast, List.map_append, List.map_cons, List.map_nil, DeedD.cs]; rfl)⟩⟩) | (have e := app_no (i := 3) h16 h21 h27 h70; exact ⟨by first | rfl | (rw [e.1]; done) | (rw [e.1]; rfl), by rw [e.2]; exact ⟨_, _, _, _, _, _, _, _, _, by first | rfl | (simp only [diskT, pushD, cutD1, Int.toNat_natCast, List.map_append, List.map_cons, List.map_nil, DeedD.cs]; rfl)⟩⟩)
  · (try simp only [decide_eq_true_eq, decide_eq_false_iff_not, beq_iff_eq, beq_eq_false_iff_ne, bne_iff_ne, bne_eq_false_iff_eq, Bool.not_eq_true', Bool.not_eq_false', ne_eq, Bool.not_eq_eq_eq_not, Bool.not_true, Bool.not_false, gt_iff_lt, ge_iff_le, Bool.not_not] at h16)
    refine AW.skip ?_
    change AW _ _ _ _ _
    refine AW.seq ?_
    refine AW.seq ?_
    refine AW.region ?_
    refine AL.r (rd_move rfl rfl) ?_
    refine AL.r (rd_len_sl rfl el_29 rfl) ?_
    refine AL.r (rd_move rfl rfl) ?_
    refine AL.op rfl (op_callo (left_c d g g1 g2 g3 g4 g5 g6 g7 g8 g9 h.room h.n) rfl (by kernel_rfl) [0, 1, 2, 3, 4, 5, 6, 7, 8, 9] (by decide) (by simp only [diskT, List.map_cons, List.map_nil, renT, renC_owM, renC_box, renC_own, renC_nown, renC_obj, renC_off, ren0, List.getD_cons_zero, List.getD_cons_succ]; exact ⟨rfl, rfl, rfl, rfl, rfl, rfl, rfl, rfl, rfl, rfl, trivial⟩) rfl (by simp only [diskT, cleanS, cle_owM, cle_own, cle_nown, cle_obj, cle_off, cle_box, okC, liveA, List.take_succ_cons, List.take_zero, List.all_cons, List.all_nil, List.getElem?_cons_zero, List.getElem?_cons_succ, isO_owM, isO_own, isO_nown, TC.isB, beq_self_eq_true, Bool.and_self, Bool.and_true, ok1, ok2, List.map_cons, List.map_nil]) (by simp only [diskT, cleanS, cle_owM, cle_own, cle_nown, cle_obj, cle_off, cle_box, okC, liveA, List.take_succ_cons, List.take_zero, List.all_cons, List.all_nil, List.getElem?_cons_zero, List.getElem?_cons_succ, isO_owM, isO_own, isO_nown, TC.isB, beq_self_eq_true, Bool.and_self, Bool.and_true, ok1, ok2, List.map_cons, List.map_nil]) ?_)
    rintro y os' ⟨rfl, rfl⟩
    refine AL.no ?_ (by (try simp only [diskT, putA, evA, List.getD_cons_zero, List.getD_cons_succ, List.set_cons_zero, List.set_cons_succ, List.length_map, KR, splA, List.map_cons, List.map_nil, List.length_append, List.length_cons, List.length_nil, List.drop_zero, csS_len, csS_take, csS_drop, csS_app, byA_len, byA_take, byA_drop, byA_app, ← List.map_take, ← List.map_drop, ← List.map_append, List.take_succ_cons, List.take_zero, List.drop_succ_cons, List.cons_append, List.nil_append, Nat.zero_add, Nat.reduceAdd, Nat.reduceMul, Nat.add_zero, Nat.mul_one, putT, renT, renC_owM, renC_box, renC_own, renC_nown, renC_obj, renC_off, ren2, ren1, ren0, ok1, ok2]); (try rfl)) (by (try simp only [diskT, putA, evA, List.getD_cons_zero, List.getD_cons_succ, List.set_cons_zero, List.set_cons_succ, List.length_map, KR, splA, List.map_cons, List.map_nil, List.length_append, List.length_cons, List.length_nil, List.drop_zero, csS_len, csS_take, csS_drop, csS_app, byA_len, byA_take, byA_drop, byA_app, ← List.map_take, ← List.map_drop, ← List.map_append, List.take_succ_cons, List.take_zero, List.drop_succ_cons, List.cons_append, List.nil_append, Nat.zero_add, Nat.reduceAdd, Nat.reduceMul, Nat.add_zero, Nat.mul_one, putT, renT, renC_owM, renC_box, renC_own, renC_nown, renC_obj, renC_off, ren2, ren1, ren0, ok1, ok2]); (try rfl))
    refine AL.r (rd_bin rfl rfl rfl (fun _ => rfl)) ?_
    refine AL.nil ?_
    change AW _ _ _ _ _
    refine AW.cond rfl (fun h21 => ?_) (fun h21 => ?_)
    · (try simp only [decide_eq_true_eq, decide_eq_false_iff_not, beq_iff_eq, beq_eq_false_iff_ne, bne_iff_ne, bne_eq_false_iff_eq, Bool.not_eq_true', Bool.not_eq_false', ne_eq, Bool.not_eq_eq_eq_not, Bool.not_true, Bool.not_false, gt_iff_lt, ge_iff_le, Bool.not_not] at h21)
      refine AW.seq ?_
      refine AW.region ?_
      refine AL.r (rd_assign rfl rfl) ?_
      refine AL.nil ?_
      change AW _ _ _ _ _
      refine AW.ret ?_
      repeat with_reducible first | refine thenA_ret ?_ | refine inBlockA_ret ?_
      with_reducible first | refine retO_ret ?_ | refine retO_normal ?_
      refine reso1 rfl (Nat.le_of_ble_eq_true rfl) (by simp only [cleanS, cle_owM, cle_own, cle_nown, cle_obj, cle_off, cle_box, okC, liveA, List.take_succ_cons, List.take_zero, List.all_cons, List.all_nil, List.getElem?_cons_zero, List.getElem?_cons_succ, isO_owM, isO_own, isO_nown, TC.isB, beq_self_eq_true, Bool.and_self, Bool.and_true, ok1, ok2, List.map_cons, List.map_nil]) (ResV.tmp rfl) rfl (by simp only [cleanS, cle_owM, cle_own, cle_nown, cle_obj, cle_off, cle_box, okC, liveA, List.take_succ_cons, List.take_zero, List.all_cons, List.all_nil, List.getElem?_cons_zero, List.getElem?_cons_succ, isO_owM, isO_own, isO_nown, TC.isB, beq_self_eq_true, Bool.and_self, Bool.and_true, ok1, ok2, List.map_cons, List.map_nil]) ?_
      first | (have e := app_dark (b := b) (i := 3) h16; exact ⟨by first | rfl | (rw [e.1]; done) | (rw [e.1]; rfl), by rw [e.2]; exact ⟨_, _, _, _, _, _, _, _, _, by first | rfl | (simp only [diskT, pushD, cutD1, Int.toNat_natCast, List.map_append, List.map_cons, List.map_nil, DeedD.cs]; rfl)⟩⟩) | (have e := app_full (i := 3) h16 h21; exact ⟨by first | rfl | (rw [e.1]; done) | (rw [e.1]; rfl), by rw [e.2]; exact ⟨_, _, _, _, _, _, _, _, _, by first | rfl | (simp only [diskT, pushD, cutD1, Int.toNat_natCast, List.map_append, List.map_cons, List.map_nil, DeedD.cs]; rfl)⟩⟩) | (have e := app_go (i := 3) h16 h21 h27 h70; exact ⟨by first | rfl | (rw [e.1]; done) | (rw [e.1]; rfl), by rw [e.2]; exact ⟨_, _, _, _, _, _, _, _, _, by first | rfl | (simp only [diskT, pushD, cutD1, Int.toNat_natCast, List.map_append, List.map_cons, List.map_nil, DeedD.cs]; rfl)⟩⟩) | (have e := app_no (i := 3) h16 h21 h27 h70; exact ⟨by first | rfl | (rw [e.1]; done) | (rw [e.1]; rfl), by rw [e.2]; exact ⟨_, _, _, _, _, _, _, _, _, by first | rfl | (simp only [diskT, pushD, cutD1, Int.toNat_natCast, List.map_append, List.map_cons, List.map_nil, DeedD.cs]; rfl)⟩⟩)
    · (try simp only [decide_eq_true_eq, decide_eq_false_iff_not, beq_iff_eq, beq_eq_false_iff_ne, bne_iff_ne, bne_eq_false_iff_eq, Bool.not_eq_true', Bool.not_eq_false', ne_eq, Bool.not_eq_eq_eq_not, Bool.not_true, Bool.not_false, gt_iff_lt, ge_iff_le, Bool.not_not] at h21)
      refine AW.skip ?_
      change AW _ _ _ _ _
      refine AW.seq ?_
      refine AW.region ?_
      refine AL.r (rd_move rfl rfl) ?_
      refine AL.r (rd_move rfl rfl) ?_
      refine AL.r (rd_len_sl rfl el_29 rfl) ?_
      refine AL.op rfl (op_callo (burn_c d g g1 g2 g3 g4 g5 g6 g7 g8 g9 (b.length : Int) h.fuse (by omega)) rfl (by kernel_rfl) [0, 1, 2, 3, 4, 5, 6, 7, 8, 9] (by decide) (by simp only [diskT, List.map_cons, List.map_nil, renT, renC_owM, renC_box, renC_own, renC_nown, renC_obj, renC_off, ren0, List.getD_cons_zero, List.getD_cons_succ]; exact ⟨rfl, rfl, rfl, rfl, rfl, rfl, rfl, rfl, rfl, rfl, trivial⟩) rfl (by simp only [diskT, cleanS, cle_owM, cle_own, cle_nown, cle_obj, cle_off, cle_box, okC, liveA, List.take_succ_cons, List.take_zero, List.all_cons, List.all_nil, List.getElem?_cons_zero, List.getElem?_cons_succ, isO_owM, isO_own, isO_nown, TC.isB, beq_self_eq_true, Bool.and_self, Bool.and_true, ok1, ok2, List.map_cons, List.map_nil]) (by simp only [diskT, cleanS, cle_owM, cle_own, cle_nown, cle_obj, cle_off, cle_box, okC, liveA, List.take_succ_cons, List.take_zero, List.all_cons, List.all_nil, List.getElem?_cons_zero, List.getElem?_cons_succ, isO_owM, isO_own, isO_nown, TC.isB, beq_self_eq_true, Bool.and_self, Bool.and_true, ok1, ok2, List.map_cons, List.map_nil]) ?_)
      rintro y os' ⟨rfl, rfl⟩
      refine AL.no ?_ (by (try simp only [diskT, putA, evA, List.getD_cons_zero, List.getD_cons_succ, List.set_cons_zero, List.set_cons_succ, List.length_map, KR, splA, List.map_cons, List.map_nil, List.length_append, List.length_cons, List.length_nil, List.drop_zero, csS_len, csS_take, csS_drop, csS_app, byA_len, byA_take, byA_drop, byA_app, ← List.map_take, ← List.map_drop, ← List.map_append, List.take_succ_cons, List.take_zero, List.drop_succ_cons, List.cons_append, List.nil_append, Nat.zero_add, Nat.reduceAdd, Nat.reduceMul, Nat.add_zero, Nat.mul_one, putT, renT, renC_owM, renC_box, renC_own, renC_nown, renC_obj, renC_off, ren2, ren1, ren0, ok1, ok2]); (try rfl)) (by (try simp only [diskT, putA, evA, List.getD_cons_zero, List.getD_cons_succ, List.set_cons_zero, List.set_cons_succ, List.length_map, KR, splA, List.map_cons, List.map_nil, List.length_append, List.length_cons, List.length_nil, List.drop_zero, csS_len, csS_take, csS_drop, csS_app, byA_len, byA_take, byA_drop, byA_app, ← List.map_take, ← List.map_drop, ← List.map_append, List.take_succ_cons, List.take_zero, List.drop_succ_cons, List.cons_append, List.nil_append, Nat.zero_add, Nat.reduceAdd, Nat.reduceMul, Nat.add_zero, Nat.mul_one, putT, renT, renC_owM, renC_box, renC_own, renC_nown, renC_obj, renC_off, ren2, ren1, ren0, ok1, ok2]); (try rfl))
      refine AL.r (rd_assign rfl rfl) ?_
      refine AL.nil ?_
      change AW _ _ _ _ _
      refine AW.seq ?_
      refine AW.seq ?_
      refine AW.region ?_
      refine AL.r (rd_move rfl rfl) ?_
      refine AL.r (rd_bin rfl rfl rfl (fun _ => rfl)) ?_
      refine AL.nil ?_
      change AW _ _ _ _ _
      refine AW.cond rfl (fun h27 => ?_) (fun h27 => ?_)
      · (try simp only [decide_eq_true_eq, decide_eq_false_iff_not, beq_iff_eq, beq_eq_false_iff_ne, bne_iff_ne, bne_eq_false_iff_eq, Bool.not_eq_true', Bool.not_eq_false', ne_eq, Bool.not_eq_eq_eq_not, Bool.not_true, Bool.not_false, gt_iff_lt, ge_iff_le, Bool.not_not] at h27)
        refine AW.seq ?_
        apply AW.drawS (by kernel_rfl)
        · skip
          refine ADA.r 0 rfl (ARdP.a (rdP_move rfl rfl)) rfl ?_
          refine ADA.r 1 rfl (ARdP.a (rdP_move rfl rfl)) rfl ?_
          refine ADA.r 2 rfl (ARdP.a (rdP_move rfl rfl)) rfl ?_
          refine ADA.r 3 rfl (ARdP.a (rdP_move rfl rfl)) rfl ?_
          refine ADA.r 4 rfl (ARdP.a (rdP_nilc_bx rfl rfl rfl)) rfl ?_
          refine ADA.r 5 rfl (ARdP.a (rdP_faddr_bx rfl fo_99_1 rfl rfl ⟨_, _, rfl⟩)) rfl ?_
          refine ADA.r 6 rfl (ARdP.a (rdP_iaddr_bx (i := 3) rfl ar_37 rfl rfl rfl (by first | rfl | omega) (by decide))) rfl ?_
          refine ADA.r 8 rfl (ARdP.a (rdP_move rfl rfl)) rfl ?_
          refine ADA.r 9 rfl (ARdP.a (rdP_move rfl rfl)) rfl ?_
          refine ADA.r 10 rfl (ARdP.a (rdP_slice_sl rfl el_29 rfl byA_one rfl ⟨_, _, rfl, (Int.toNat_of_nonneg (by omega)).symm⟩ (by omega) (by simp only [byA_len]; omega))) rfl ?_
          refine ADA.r 12 rfl (ARdP.a (rdP_nilc_bx rfl rfl rfl)) rfl ?_
          refine ADA.r 13 rfl (ARdP.a (rdP_faddr_bx rfl fo_99_1 rfl rfl ⟨_, _, rfl⟩)) rfl ?_
          refine ADA.b ?_
          refine ADB.move 7 rfl (by kernel_rfl) rfl (AOpB.op (ARd.opB (rd_load_bx rfl ag_29 rfl rfl rfl) ?_))
          refine ADB.n ?_
          refine ADB.move 11 rfl (by kernel_rfl) rfl (op_appendM rfl ap_29 rfl rfl (src_sl rfl (by first | exact csS_one | exact byA_one | (intro cs hcs; obtain rfl := List.mem_singleton.1 hcs; rfl) | (intro cs hcs; obtain ⟨_, _, rfl⟩ := List.mem_map.1 hcs; rfl) | simp)) (by simp only [byA_len, burnD, List.length_drop, List.length_take]; omega) (by simp only [byA_len, burnD, List.length_drop, List.length_take]; omega) ?_)
          refine ADB.n ?_
          refine ADB.r 14 rfl (rdP_iaddr_bx (i := 3) rfl ar_37 rfl rfl rfl (by first | rfl | omega) (by decide)) rfl ?_
          refine ADB.move 15 rfl (by kernel_rfl) rfl (op_store rfl rfl rfl rfl rfl (by first | exact live_owM rfl | exact live_own rfl | exact live_nown rfl | rfl) sz_29 (Nat.le_of_ble_eq_true rfl) ?_)
          refine ADB.n ?_
          refine ADB.done (by kernel_rfl) ?_
          exact ⟨rfl, rfl⟩
        skip
        change AW _ _ _ _ _
        refine AW.seq ?_
        apply AW.drawS (by kernel_rfl)
        · skip
          refine ADA.r 0 rfl (ARdP.a (rdP_move rfl rfl)) rfl ?_
          refine ADA.r 1 rfl (ARdP.a (rdP_move rfl rfl)) rfl ?_
          refine ADA.r 2 rfl (ARdP.a (rdP_nilc_bx rfl rfl rfl)) rfl ?_
          refine ADA.r 3 rfl (ARdP.a (rdP_faddr_bx rfl fo_99_3 rfl rfl ⟨_, _, rfl⟩)) rfl ?_
          refine ADA.r 5 rfl (ARdP.a (rdP_move rfl rfl)) rfl ?_
          refine ADA.r 7 rfl (ARdP.a (rdP_move rfl rfl)) rfl ?_
          refine ADA.r 8 rfl (ARdP.a (rdP_move rfl rfl)) rfl ?_
          refine ADA.r 9 rfl (ARdP.a (rdP_slice_sl rfl el_29 rfl byA_one rfl ⟨_, _, rfl, (Int.toNat_of_nonneg (by omega)).symm⟩ (by omega) (by simp only [byA_len]; omega))) rfl ?_
          refine ADA.b ?_
          refine ADB.all (is := [4, 6]) (by kernel_rfl) (by simp) ?_
          intro i hi
          simp only [List.mem_cons, List.not_mem_nil, or_false] at hi
          rcases hi with rfl | rfl
          · skip
            refine ⟨_, rfl, rfl, AOpB.op (ARd.opB (rd_load_bx rfl ag_97 rfl rfl rfl) ?_)⟩
            refine ADB.n ?_
            refine ADB.move 6 rfl (by kernel_rfl) rfl (AOpB.op (bs_own 11 rfl ap_29 ze_5 rfl rfl rfl ?_))
            refine ADB.n ?_
            refine ADB.move 10 rfl (by kernel_rfl) rfl (op_append rfl ap_29 rfl rfl (src_sl rfl (by first | exact csS_one | exact byA_one | (intro cs hcs; obtain rfl := List.mem_singleton.1 hcs; rfl) | (intro cs hcs; obtain ⟨_, _, rfl⟩ := List.mem_map.1 hcs; rfl) | simp)) (by simp [byA_len]; omega) (by simp [byA_len]; omega) ?_)
            refine ADB.n ?_
            refine ADB.settle 53 rfl rfl (by first | rfl | exact cont_owM _ _ _ _) ?_
            refine ADB.n ?_
            refine ADB.r 11 rfl (rdP_build rfl pl_102 ze_102 rfl rfl) rfl ?_
            refine ADB.move 12 rfl (by kernel_rfl) rfl (AOpB.op (bs_set rfl ap_97 ze_102 rfl rfl ?_))
            refine ADB.n ?_
            refine ADB.move 13 rfl (by kernel_rfl) rfl (op_appendM rfl ap_97 rfl rfl (src_sl rfl (by first | exact csS_one | exact byA_one | (intro cs hcs; obtain rfl := List.mem_singleton.1 hcs; rfl) | (intro cs hcs; obtain ⟨_, _, rfl⟩ := List.mem_map.1 hcs; rfl) | simp)) (by simp [burnD]; omega) (by simp [burnD]; omega) ?_)
            refine ADB.n ?_
            refine ADB.r 14 rfl (rdP_nilc_bx rfl rfl rfl) rfl ?_
            refine ADB.r 15 rfl (rdP_faddr_bx rfl fo_99_3 rfl rfl ⟨_, _, rfl⟩) rfl ?_
            refine ADB.move 16 rfl (by kernel_rfl) rfl (op_store rfl rfl rfl rfl rfl (by first | exact live_owM rfl | exact live_own rfl | exact live_nown rfl | rfl) sz_97 (Nat.le_of_ble_eq_true rfl) ?_)
            refine ADB.n ?_
            refine ADB.done (by kernel_rfl) ?_
            exact ⟨rfl, rfl⟩
          · skip
            refine ⟨_, rfl, rfl, AOpB.op (bs_own 11 rfl ap_29 ze_5 rfl rfl rfl ?_)⟩
            refine ADB.n ?_
            refine ADB.all (is := [4, 10]) (by kernel_rfl) (by simp) ?_
            intro i hi
            simp only [List.mem_cons, List.not_mem_nil, or_false] at hi
            rcases hi with rfl | rfl
            · skip
              refine ⟨_, rfl, rfl, AOpB.op (ARd.opB (rd_load_bx rfl ag_97 rfl rfl rfl) ?_)⟩
              refine ADB.n ?_
              refine ADB.move 10 rfl (by kernel_rfl) rfl (op_append rfl ap_29 rfl rfl (src_sl rfl (by first | exact csS_one | exact byA_one | (intro cs hcs; obtain rfl := List.mem_singleton.1 hcs; rfl) | (intro cs hcs; obtain ⟨_, _, rfl⟩ := List.mem_map.1 hcs; rfl) | simp)) (by simp [byA_len]; omega) (by simp [byA_len]; omega) ?_)
              refine ADB.n ?_
              refine ADB.settle 53 rfl rfl (by first | rfl | exact cont_owM _ _ _ _) ?_
              refine ADB.n ?_
              refine ADB.r 11 rfl (rdP_build rfl pl_102 ze_102 rfl rfl) rfl ?_
              refine ADB.move 12 rfl (by kernel_rfl) rfl (AOpB.op (bs_set rfl ap_97 ze_102 rfl rfl ?_))
              refine ADB.n ?_
              refine ADB.move 13 rfl (by kernel_rfl) rfl (op_appendM rfl ap_97 rfl rfl (src_sl rfl (by first | exact csS_one | exact byA_one | (intro cs hcs; obtain rfl := List.mem_singleton.1 hcs; rfl) | (intro cs hcs; obtain ⟨_, _, rfl⟩ := List.mem_map.1 hcs; rfl) | simp)) (by simp [burnD]; omega) (by simp [burnD]; omega) ?_)
              refine ADB.n ?_
              refine ADB.r 14 rfl (rdP_nilc_bx rfl rfl rfl) rfl ?_
              refine ADB.r 15 rfl (rdP_faddr_bx rfl fo_99_3 rfl rfl ⟨_, _, rfl⟩) rfl ?_
              refine ADB.move 16 rfl (by kernel_rfl) rfl (op_store rfl rfl rfl rfl rfl (by first | exact live_owM rfl | exact live_own rfl | exact live_nown rfl | rfl) sz_97 (Nat.le_of_ble_eq_true rfl) ?_)
              refine ADB.n ?_
              refine ADB.done (by kernel_rfl) ?_
              exact ⟨rfl, rfl⟩
            · skip
              refine ⟨_, rfl, rfl, op_append rfl ap_29 rfl rfl (src_sl rfl (by first | exact csS_one | exact byA_one | (intro cs hcs; obtain rfl := List.mem_singleton.1 hcs; rfl) | (intro cs hcs; obtain ⟨_, _, rfl⟩ := List.mem_map.1 hcs; rfl) | simp)) (by simp [byA_len]; omega) (by simp [byA_len]; omega) ?_⟩
              refine ADB.n ?_
              refine ADB.settle 53 rfl rfl (by first | rfl | exact cont_owM _ _ _ _) ?_
              refine ADB.n ?_
              refine ADB.r 11 rfl (rdP_build rfl pl_102 ze_102 rfl rfl) rfl ?_
              refine ADB.all (is := [4, 12]) (by kernel_rfl) (by simp) ?_
              intro i hi
              simp only [List.mem_cons, List.not_mem_nil, or_false] at hi
              rcases hi with rfl | rfl
              · skip
                refine ⟨_, rfl, rfl, AOpB.op (ARd.opB (rd_load_bx rfl ag_97 rfl rfl rfl) ?_)⟩
                refine ADB.n ?_
                refine ADB.move 12 rfl (by kernel_rfl) rfl (AOpB.op (bs_set rfl ap_97 ze_102 rfl rfl ?_))
                refine ADB.n ?_
                refine ADB.move 13 rfl (by kernel_rfl) rfl (op_appendM rfl ap_97 rfl rfl (src_sl rfl (by first | exact csS_one | exact byA_one | (intro cs hcs; obtain rfl := List.mem_singleton.1 hcs; rfl) | (intro cs hcs; obtain ⟨_, _, rfl⟩ := List.mem_map.1 hcs; rfl) | simp)) (by simp [burnD]; omega) (by simp [burnD]; omega) ?_)
                refine ADB.n ?_
                refine ADB.r 14 rfl (rdP_nilc_bx rfl rfl rfl) rfl ?_
                refine ADB.r 15 rfl (rdP_faddr_bx rfl fo_99_3 rfl rfl ⟨_, _, rfl⟩) rfl ?_
                refine ADB.move 16 rfl (by kernel_rfl) rfl (op_store rfl rfl rfl rfl rfl (by first | exact live_owM rfl | exact live_own rfl | exact live_nown rfl | rfl) sz_97 (Nat.le_of_ble_eq_true rfl) ?_)
                refine ADB.n ?_
                refine ADB.done (by kernel_rfl) ?_
                exact ⟨rfl, rfl⟩
              · skip
                refine ⟨_, rfl, rfl, AOpB.op (bs_set rfl ap_97 ze_102 rfl rfl ?_)⟩
                refine ADB.n ?_
                refine ADB.move 4 rfl (by kernel_rfl) rfl (AOpB.op (ARd.opB (rd_load_bx rfl ag_97 rfl rfl rfl) ?_))
                refine ADB.n ?_
                refine ADB.move 13 rfl (by kernel_rfl) rfl (op_appendM rfl ap_97 rfl rfl (src_sl rfl (by first | exact csS_one | exact byA_one | (intro cs hcs; obtain rfl := List.mem_singleton.1 hcs; rfl) | (intro cs hcs; obtain ⟨_, _, rfl⟩ := List.mem_map.1 hcs; rfl) | simp)) (by simp [burnD]; omega) (by simp [burnD]; omega) ?_)
                refine ADB.n ?_
                refine ADB.r 14 rfl (rdP_nilc_bx rfl rfl rfl) rfl ?_
                refine ADB.r 15 rfl (rdP_faddr_bx rfl fo_99_3 rfl rfl ⟨_, _, rfl⟩) rfl ?_
                refine ADB.move 16 rfl (by kernel_rfl) rfl (op_store rfl rfl rfl rfl rfl (by first | exact live_owM rfl | exact live_own rfl | exact live_nown rfl | rfl) sz_97 (Nat.le_of_ble_eq_true rfl) ?_)
                refine ADB.n ?_
                refine ADB.done (by kernel_rfl) ?_
                exact ⟨rfl, rfl⟩
        skip
        change AW _ _ _ _ _
        refine AW.region ?_
        refine AL.r (rd_move rfl rfl) ?_
        refine AL.r (rd_nilc_bx rfl rfl rfl) ?_
        refine AL.r (rd_faddr_bx rfl fo_99_4 rfl rfl ⟨_, _, rfl⟩) ?_
        refine AL.r (rd_load_bx rfl ag_3 rfl rfl rfl) ?_
        refine AL.r (rd_move rfl rfl) ?_
        refine AL.r (rd_arith_add rfl rfl rfl (IntWalk.i64_in _ (by simp only [burnD]; omega))) ?_
        refine AL.r (rd_nilc_bx rfl rfl rfl) ?_
        refine AL.r (rd_faddr_bx rfl fo_99_4 rfl rfl ⟨_, _, rfl⟩) ?_
        refine AL.op rfl (op_store rfl rfl rfl rfl rfl rfl sz_3 (Nat.le_of_ble_eq_true rfl) ?_)
        refine AL.no ?_
        refine AL.nil ?_
        change AW _ _ _ _ _
        refine AW.seq ?_
        refine AW.seq ?_
        refine AW.region ?_
        refine AL.r (rd_move rfl rfl) ?_
        refine AL.r (rd_nilc_bx rfl rfl rfl) ?_
        refine AL.r (rd_faddr_bx rfl fo_99_8 rfl rfl ⟨_, _, rfl⟩) ?_
        refine AL.r (rd_load_bx rfl ag_4 rfl rfl rfl) ?_
        refine AL.nil ?_
        change AW _ _ _ _ _
        refine AW.cond rfl (fun h70 => ?_) (fun h70 => ?_)
        · (try simp only [decide_eq_true_eq, decide_eq_false_iff_not, beq_iff_eq, beq_eq_false_iff_ne, bne_iff_ne, bne_eq_false_iff_eq, Bool.not_eq_true', Bool.not_eq_false', ne_eq, Bool.not_eq_eq_eq_not, Bool.not_true, Bool.not_false, gt_iff_lt, ge_iff_le, Bool.not_not] at h70)
          refine AW.seq ?_
          refine AW.region ?_
          refine AL.r (rd_assign rfl rfl) ?_
          refine AL.nil ?_
          change AW _ _ _ _ _
          refine AW.ret ?_
          repeat with_reducible first | refine thenA_ret ?_ | refine inBlockA_ret ?_
          with_reducible first | refine retO_ret ?_ | refine retO_normal ?_
          refine reso1 rfl (Nat.le_of_ble_eq_true rfl) (by simp only [cleanS, cle_owM, cle_own, cle_nown, cle_obj, cle_off, cle_box, okC, liveA, List.take_succ_cons, List.take_zero, List.all_cons, List.all_nil, List.getElem?_cons_zero, List.getElem?_cons_succ, isO_owM, isO_own, isO_nown, TC.isB, beq_self_eq_true, Bool.and_self, Bool.and_true, ok1, ok2, List.map_cons, List.map_nil]) (ResV.tmp rfl) rfl (by simp only [cleanS, cle_owM, cle_own, cle_nown, cle_obj, cle_off, cle_box, okC, liveA, List.take_succ_cons, List.take_zero, List.all_cons, List.all_nil, List.getElem?_cons_zero, List.getElem?_cons_succ, isO_owM, isO_own, isO_nown, TC.isB, beq_self_eq_true, Bool.and_self, Bool.and_true, ok1, ok2, List.map_cons, List.map_nil]) ?_
          first | (have e := app_dark (b := b) (i := 3) h16; exact ⟨by first | rfl | (rw [e.1]; done) | (rw [e.1]; rfl), by rw [e.2]; exact ⟨_, _, _, _, _, _, _, _, _, by first | rfl | (simp only [diskT, pushD, cutD1, Int.toNat_natCast, List.map_append, List.map_cons, List.map_nil, DeedD.cs]; rfl)⟩⟩) | (have e := app_full (i := 3) h16 h21; exact ⟨by first | rfl | (rw [e.1]; done) | (rw [e.1]; rfl), by rw [e.2]; exact ⟨_, _, _, _, _, _, _, _, _, by first | rfl | (simp only [diskT, pushD, cutD1, Int.toNat_natCast, List.map_append, List.map_cons, List.map_nil, DeedD.cs]; rfl)⟩⟩) | (have e := app_go (i := 3) h16 h21 h27 h70; exact ⟨by first | rfl | (rw [e.1]; done) | (rw [e.1]; rfl), by rw [e.2]; exact ⟨_, _, _, _, _, _, _, _, _, by first | rfl | (simp only [diskT, pushD, cutD1, Int.toNat_natCast, List.map_append, List.map_cons, List.map_nil, DeedD.cs]; rfl)⟩⟩) | (have e := app_no (i := 3) h16 h21 h27 h70; exact ⟨by first | rfl | (rw [e.1]; done) | (rw [e.1]; rfl), by rw [e.2]; exact ⟨_, _, _, _, _, _, _, _, _, by first | rfl | (simp only [diskT, pushD, cutD1, Int.toNat_natCast, List.map_append, List.map_cons, List.map_nil, DeedD.cs]; rfl)⟩⟩)
        · (try simp only [decide_eq_true_eq, decide_eq_false_iff_not, beq_iff_eq, beq_eq_false_iff_ne, bne_iff_ne, bne_eq_false_iff_eq, Bool.not_eq_true', Bool.not_eq_false', ne_eq, Bool.not_eq_eq_eq_not, Bool.not_true, Bool.not_false, gt_iff_lt, ge_iff_le, Bool.not_not] at h70)
          refine AW.skip ?_
          change AW _ _ _ _ _
          refine AW.seq ?_
          refine AW.region ?_
          refine AL.r (rd_assign rfl rfl) ?_
          refine AL.nil ?_
          change AW _ _ _ _ _
          refine AW.ret ?_
          repeat with_reducible first | refine thenA_ret ?_ | refine inBlockA_ret ?_
          with_reducible first | refine retO_ret ?_ | refine retO_normal ?_
          refine reso1 rfl (Nat.le_of_ble_eq_true rfl) (by simp only [cleanS, cle_owM, cle_own, cle_nown, cle_obj, cle_off, cle_box, okC, liveA, List.take_succ_cons, List.take_zero, List.all_cons, List.all_nil, List.getElem?_cons_zero, List.getElem?_cons_succ, isO_owM, isO_own, isO_nown, TC.isB, beq_self_eq_true, Bool.and_self, Bool.and_true, ok1, ok2, List.map_cons, List.map_nil]) (ResV.tmp rfl) rfl (by simp only [cleanS, cle_owM, cle_own, cle_nown, cle_obj, cle_off, cle_box, okC, liveA, List.take_succ_cons, List.take_zero, List.all_cons, List.all_nil, List.getElem?_cons_zero, List.getElem?_cons_succ, isO_owM, isO_own, isO_nown, TC.isB, beq_self_eq_true, Bool.and_self, Bool.and_true, ok1, ok2, List.map_cons, List.map_nil]) ?_
          first | (have e := app_dark (b := b) (i := 3) h16; exact ⟨by first | rfl | (rw [e.1]; done) | (rw [e.1]; rfl), by rw [e.2]; exact ⟨_, _, _, _, _, _, _, _, _, by first | rfl | (simp only [diskT, pushD, cutD1, Int.toNat_natCast, List.map_append, List.map_cons, List.map_nil, DeedD.cs]; rfl)⟩⟩) | (have e := app_full (i := 3) h16 h21; exact ⟨by first | rfl | (rw [e.1]; done) | (rw [e.1]; rfl), by rw [e.2]; exact ⟨_, _, _, _, _, _, _, _, _, by first | rfl | (simp only [diskT, pushD, cutD1, Int.toNat_natCast, List.map_append, List.map_cons, List.map_nil, DeedD.cs]; rfl)⟩⟩) | (have e := app_go (i := 3) h16 h21 h27 h70; exact ⟨by first | rfl | (rw [e.1]; done) | (rw [e.1]; rfl), by rw [e.2]; exact ⟨_, _, _, _, _, _, _, _, _, by first | rfl | (simp only [diskT, pushD, cutD1, Int.toNat_natCast, List.map_append, List.map_cons, List.map_nil, DeedD.cs]; rfl)⟩⟩) | (have e := app_no (i := 3) h16 h21 h27 h70; exact ⟨by first | rfl | (rw [e.1]; done) | (rw [e.1]; rfl), by rw [e.2]; exact ⟨_, _, _, _, _, _, _, _, _, by first | rfl | (simp only [diskT, pushD, cutD1, Int.toNat_natCast, List.map_append, List.map_cons, List.map_nil, DeedD.cs]; rfl)⟩⟩)
      · (try simp only [decide_eq_true_eq, decide_eq_false_iff_not, beq_iff_eq, beq_eq_false_iff_ne, bne_iff_ne, bne_eq_false_iff_eq, Bool.not_eq_true', Bool.not_eq_false', ne_eq, Bool.not_eq_eq_eq_not, Bool.not_true, Bool.not_false, gt_iff_lt, ge_iff_le, Bool.not_not] at h27)
        refine AW.skip ?_
        change AW _ _ _ _ _
        refine AW.seq ?_
        refine AW.seq ?_
        refine AW.region ?_
        refine AL.r (rd_move rfl rfl) ?_
        refine AL.r (rd_nilc_bx rfl rfl rfl) ?_
        refine AL.r (rd_faddr_bx rfl fo_99_8 rfl rfl ⟨_, _, rfl⟩) ?_
        refine AL.r (rd_load_bx rfl ag_4 rfl rfl rfl) ?_
        refine AL.nil ?_
        change AW _ _ _ _ _
        refine AW.cond rfl (fun h70 => ?_) (fun h70 => ?_)
        · (try simp only [decide_eq_true_eq, decide_eq_false_iff_not, beq_iff_eq, beq_eq_false_iff_ne, bne_iff_ne, bne_eq_false_iff_eq, Bool.not_eq_true', Bool.not_eq_false', ne_eq, Bool.not_eq_eq_eq_not, Bool.not_true, Bool.not_false, gt_iff_lt, ge_iff_le, Bool.not_not] at h70)
          refine AW.seq ?_
          refine AW.region ?_
          refine AL.r (rd_assign rfl rfl) ?_
          refine AL.nil ?_
          change AW _ _ _ _ _
          refine AW.ret ?_
          repeat with_reducible first | refine thenA_ret ?_ | refine inBlockA_ret ?_
          with_reducible first | refine retO_ret ?_ | refine retO_normal ?_
          refine reso1 rfl (Nat.le_of_ble_eq_true rfl) (by simp only [cleanS, cle_owM, cle_own, cle_nown, cle_obj, cle_off, cle_box, okC, liveA, List.take_succ_cons, List.take_zero, List.all_cons, List.all_nil, List.getElem?_cons_zero, List.getElem?_cons_succ, isO_owM, isO_own, isO_nown, TC.isB, beq_self_eq_true, Bool.and_self, Bool.and_true, ok1, ok2, List.map_cons, List.map_nil]) (ResV.tmp rfl) rfl (by simp only [cleanS, cle_owM, cle_own, cle_nown, cle_obj, cle_off, cle_box, okC, liveA, List.take_succ_cons, List.take_zero, List.all_cons, List.all_nil, List.getElem?_cons_zero, List.getElem?_cons_succ, isO_owM, isO_own, isO_nown, TC.isB, beq_self_eq_true, Bool.and_self, Bool.and_true, ok1, ok2, List.map_cons, List.map_nil]) ?_
          first | (have e := app_dark (b := b) (i := 3) h16; exact ⟨by first | rfl | (rw [e.1]; done) | (rw [e.1]; rfl), by rw [e.2]; exact ⟨_, _, _, _, _, _, _, _, _, by first | rfl | (simp only [diskT, pushD, cutD1, Int.toNat_natCast, List.map_append, List.map_cons, List.map_nil, DeedD.cs]; rfl)⟩⟩) | (have e := app_full (i := 3) h16 h21; exact ⟨by first | rfl | (rw [e.1]; done) | (rw [e.1]; rfl), by rw [e.2]; exact ⟨_, _, _, _, _, _, _, _, _, by first | rfl | (simp only [diskT, pushD, cutD1, Int.toNat_natCast, List.map_append, List.map_cons, List.map_nil, DeedD.cs]; rfl)⟩⟩) | (have e := app_go (i := 3) h16 h21 h27 h70; exact ⟨by first | rfl | (rw [e.1]; done) | (rw [e.1]; rfl), by rw [e.2]; exact ⟨_, _, _, _, _, _, _, _, _, by first | rfl | (simp only [diskT, pushD, cutD1, Int.toNat_natCast, List.map_append, List.map_cons, List.map_nil, DeedD.cs]; rfl)⟩⟩) | (have e := app_no (i := 3) h16 h21 h27 h70; exact ⟨by first | rfl | (rw [e.1]; done) | (rw [e.1]; rfl), by rw [e.2]; exact ⟨_, _, _, _, _, _, _, _, _, by first | rfl | (simp only [diskT, pushD, cutD1, Int.toNat_natCast, List.map_append, List.map_cons, List.map_nil, DeedD.cs]; rfl)⟩⟩)
        · (try simp only [decide_eq_true_eq, decide_eq_false_iff_not, beq_iff_eq, beq_eq_false_iff_ne, bne_iff_ne, bne_eq_false_iff_eq, Bool.not_eq_true', Bool.not_eq_false', ne_eq, Bool.not_eq_eq_eq_not, Bool.not_true, Bool.not_false, gt_iff_lt, ge_iff_le, Bool.not_not] at h70)
          refine AW.skip ?_
          change AW _ _ _ _ _
          refine AW.seq ?_
          refine AW.region ?_
          refine AL.r (rd_assign rfl rfl) ?_
          refine AL.nil ?_
          change AW _ _ _ _ _
          refine AW.ret ?_
          repeat with_reducible first | refine thenA_ret ?_ | refine inBlockA_ret ?_
          with_reducible first | refine retO_ret ?_ | refine retO_normal ?_
          refine reso1 rfl (Nat.le_of_ble_eq_true rfl) (by simp only [cleanS, cle_owM, cle_own, cle_nown, cle_obj, cle_off, cle_box, okC, liveA, List.take_succ_cons, List.take_zero, List.all_cons, List.all_nil, List.getElem?_cons_zero, List.getElem?_cons_succ, isO_owM, isO_own, isO_nown, TC.isB, beq_self_eq_true, Bool.and_self, Bool.and_true, ok1, ok2, List.map_cons, List.map_nil]) (ResV.tmp rfl) rfl (by simp only [cleanS, cle_owM, cle_own, cle_nown, cle_obj, cle_off, cle_box, okC, liveA, List.take_succ_cons, List.take_zero, List.all_cons, List.all_nil, List.getElem?_cons_zero, List.getElem?_cons_succ, isO_owM, isO_own, isO_nown, TC.isB, beq_self_eq_true, Bool.and_self, Bool.and_true, ok1, ok2, List.map_cons, List.map_nil]) ?_
          first | (have e := app_dark (b := b) (i := 3) h16; exact ⟨by first | rfl | (rw [e.1]; done) | (rw [e.1]; rfl), by rw [e.2]; exact ⟨_, _, _, _, _, _, _, _, _, by first | rfl | (simp only [diskT, pushD, cutD1, Int.toNat_natCast, List.map_append, List.map_cons, List.map_nil, DeedD.cs]; rfl)⟩⟩) | (have e := app_full (i := 3) h16 h21; exact ⟨by first | rfl | (rw [e.1]; done) | (rw [e.1]; rfl), by rw [e.2]; exact ⟨_, _, _, _, _, _, _, _, _, by first | rfl | (simp only [diskT, pushD, cutD1, Int.toNat_natCast, List.map_append, List.map_cons, List.map_nil, DeedD.cs]; rfl)⟩⟩) | (have e := app_go (i := 3) h16 h21 h27 h70; exact ⟨by first | rfl | (rw [e.1]; done) | (rw [e.1]; rfl), by rw [e.2]; exact ⟨_, _, _, _, _, _, _, _, _, by first | rfl | (simp only [diskT, pushD, cutD1, Int.toNat_natCast, List.map_append, List.map_cons, List.map_nil, DeedD.cs]; rfl)⟩⟩) | (have e := app_no (i := 3) h16 h21 h27 h70; exact ⟨by first | rfl | (rw [e.1]; done) | (rw [e.1]; rfl), by rw [e.2]; exact ⟨_, _, _, _, _, _, _, _, _, by first | rfl | (simp only [diskT, pushD, cutD1, Int.toNat_natCast, List.map_append, List.map_cons, List.map_nil, DeedD.cs]; rfl)⟩⟩)
theorem cut_c3 (n : Int) (h : d.Fit) : ACo Try.prog 26 [.bx 0 g 0, .sc (.int .i64 3), .sc (.int .i64 n)] (diskT g g1 g2 g3 g4 g5 g6 g7 g8 g9 d)
    (fun y os' => y = .sc (.int .i64 (cutR d 3 n)) ∧ DiskAt g (cutD d 3 n) os') := by
  have hbn := burnN_le (n := 1) h (by omega)
  have hw := h.w
  have hnn := h.n 3
  have hqq := h.q
  refine ACo.of (t0 := [.bx 0 g 0, .sc (.int .i64 3), .sc (.int .i64 n), AV.sc undef, AV.sc undef, AV.sc undef, AV.sc undef, AV.sc undef, AV.sc undef, AV.sc undef, AV.sc undef, AV.sc undef, AV.sc undef, AV.sc undef, AV.sc undef, AV.sc undef, AV.sc undef, AV.sc undef, AV.sc undef, AV.sc undef, AV.sc undef, AV.sc undef, AV.sc undef, AV.sc undef, AV.sc undef, AV.sc undef, AV.sc undef, AV.sc undef, AV.sc undef, AV.sc undef, AV.sc undef, AV.sc undef, AV.sc undef, AV.sc undef, AV.sc undef, AV.sc undef, AV.sc undef, AV.sc undef, AV.sc undef, AV.sc undef, AV.sc undef, AV.sc undef, AV.sc undef, AV.sc undef, AV.sc undef, AV.sc undef, AV.sc undef, AV.sc undef, AV.sc undef, AV.sc undef, AV.sc undef, AV.sc undef, AV.sc undef, AV.sc undef, AV.sc undef, AV.sc undef, AV.sc undef, AV.sc undef, AV.sc undef, AV.sc undef, AV.sc undef, AV.sc undef, AV.sc undef, AV.sc undef, AV.sc undef, AV.sc undef, AV.sc undef, AV.sc undef]) (st0 := [⟨g, .box 99 [.sc (.int .i64 d.room), .ow 1 g1, .ow 2 g2, .ow 3 g3, .ow 4 g4, .ow 5 g5, .ow 6 g6, .ow 7 g7, .ow 8 g8, .ow 9 g9, .sc (.int .i64 d.waits), .sc (.int .i64 d.done), .sc (.bool d.fused), .sc (.int .i64 d.fuse), .sc (.bool d.dark)]⟩, ⟨g1, owM (d.nf 0) 5 1 (byA (d.n 0))⟩, ⟨g2, owM (d.nf 1) 5 1 (byA (d.n 1))⟩, ⟨g3, owM (d.nf 2) 5 1 (byA (d.n 2))⟩, ⟨g4, owM (d.nf 3) 5 1 (byA (d.n 3))⟩, ⟨g5, owM (d.lf 0) 5 1 (byA (d.l 0))⟩, ⟨g6, owM (d.lf 1) 5 1 (byA (d.l 1))⟩, ⟨g7, owM (d.lf 2) 5 1 (byA (d.l 2))⟩, ⟨g8, owM (d.lf 3) 5 1 (byA (d.l 3))⟩, ⟨g9, owM true 102 4 (d.q.map DeedD.cs)⟩, TK.mk 0 .off, TK.mk 0 .off]) 2 Try.func26 rfl rfl rfl 10 rfl ?_
  refine AW.seq ?_
  refine AW.region ?_
  refine AL.r (rd_assign rfl rfl) ?_
  refine AL.nil ?_
  change AW _ _ _ _ _
  refine AW.seq ?_
  refine AW.seq ?_
  refine AW.region ?_
  refine AL.r (rd_move rfl rfl) ?_
  refine AL.r (rd_peq_bx rfl pt_25 rfl rfl rfl) ?_
  refine AL.nil ?_
  change AW _ _ _ _ _
  refine AW.cond_f rfl ?_
  refine AW.skip ?_
  change AW _ _ _ _ _
  refine AW.seq ?_
  refine AW.seq ?_
  refine AW.region ?_
  refine AL.r (rd_move rfl rfl) ?_
  refine AL.op rfl (AOpB.op (op_call (right_in (by decide)) rfl (by kernel_rfl) rfl (none) ?_))
  rintro r rfl
  refine AL.no ?_
  refine AL.r (rd_un rfl rfl (fun _ => rfl)) ?_
  refine AL.r (rd_move rfl rfl) ?_
  refine AL.ro (rd_move rfl rfl) ?_
  refine AL.ro (rd_bin rfl rfl rfl (fun _ => rfl)) ?_
  refine AL.r (rd_pick_f rfl rfl rfl) ?_
  refine AL.r (rd_move rfl rfl) ?_
  refine AL.fork (d := 16) rfl (fun h16 => ?_) (fun h16 => ?_)
  · (try simp only [decide_eq_true_eq, decide_eq_false_iff_not, beq_iff_eq, beq_eq_false_iff_ne, bne_iff_ne, bne_eq_false_iff_eq, Bool.not_eq_true', Bool.not_eq_false', ne_eq, Bool.not_eq_eq_eq_not, Bool.not_true, Bool.not_false, gt_iff_lt, ge_iff_le, Bool.not_not] at h16)
    refine AL.n ?_
    refine AL.rf ?_
    refine AL.rf ?_
    refine AL.rf ?_
    refine AL.rf ?_
    refine AL.rf ?_
    refine AL.rf ?_
    refine AL.rf ?_
    refine AL.rf ?_
    refine AL.rf ?_
    refine AL.r (rd_pick_t rfl rfl rfl) ?_
    refine AL.nil ?_
    change AW _ _ _ _ _
    refine AW.cond_t rfl ?_
    refine AW.seq ?_
    refine AW.region ?_
    refine AL.r (rd_assign rfl rfl) ?_
    refine AL.nil ?_
    change AW _ _ _ _ _
    refine AW.ret ?_
    repeat with_reducible first | refine thenA_ret ?_ | refine inBlockA_ret ?_
    with_reducible first | refine retO_ret ?_ | refine retO_normal ?_
    refine reso1 rfl (Nat.le_of_ble_eq_true rfl) (by simp only [cleanS, cle_owM, cle_own, cle_nown, cle_obj, cle_off, cle_box, okC, liveA, List.take_succ_cons, List.take_zero, List.all_cons, List.all_nil, List.getElem?_cons_zero, List.getElem?_cons_succ, isO_owM, isO_own, isO_nown, TC.isB, beq_self_eq_true, Bool.and_self, Bool.and_true, ok1, ok2, List.map_cons, List.map_nil]) (ResV.tmp rfl) rfl (by simp only [cleanS, cle_owM, cle_own, cle_nown, cle_obj, cle_off, cle_box, okC, liveA, List.take_succ_cons, List.take_zero, List.all_cons, List.all_nil, List.getElem?_cons_zero, List.getElem?_cons_succ, isO_owM, isO_own, isO_nown, TC.isB, beq_self_eq_true, Bool.and_self, Bool.and_true, ok1, ok2, List.map_cons, List.map_nil]) ?_
    first | (have e := cut_arg (d := d) (i := 3) (.inl h16); exact ⟨by first | rfl | (rw [e.1]; done) | (rw [e.1]; rfl), by rw [e.2]; exact ⟨_, _, _, _, _, _, _, _, _, by first | rfl | (simp only [diskT, pushD, cutD1, Int.toNat_natCast, List.map_append, List.map_cons, List.map_nil, DeedD.cs]; rfl)⟩⟩) | (have e := cut_arg (d := d) (i := 3) (.inr h26); exact ⟨by first | rfl | (rw [e.1]; done) | (rw [e.1]; rfl), by rw [e.2]; exact ⟨_, _, _, _, _, _, _, _, _, by first | rfl | (simp only [diskT, pushD, cutD1, Int.toNat_natCast, List.map_append, List.map_cons, List.map_nil, DeedD.cs]; rfl)⟩⟩) | (have e := cut_dark (d := d) (i := 3) h16 h26 h31; exact ⟨by first | rfl | (rw [e.1]; done) | (rw [e.1]; rfl), by rw [e.2]; exact ⟨_, _, _, _, _, _, _, _, _, by first | rfl | (simp only [diskT, pushD, cutD1, Int.toNat_natCast, List.map_append, List.map_cons, List.map_nil, DeedD.cs]; rfl)⟩⟩) | (have e := cut_burn (d := d) (i := 3) h16 h26 h31 h35; exact ⟨by first | rfl | (rw [e.1]; done) | (rw [e.1]; rfl), by rw [e.2]; exact ⟨_, _, _, _, _, _, _, _, _, by first | rfl | (simp only [diskT, pushD, cutD1, Int.toNat_natCast, List.map_append, List.map_cons, List.map_nil, DeedD.cs]; rfl)⟩⟩) | (have e := cut_go (d := d) (i := 3) h16 h26 h31 h35; exact ⟨by first | rfl | (rw [e.1]; done) | (rw [e.1]; rfl), by rw [e.2]; exact ⟨_, _, _, _, _, _, _, _, _, by first | rfl | (simp only [diskT, pushD, cutD1, Int.toNat_natCast, List.map_append, List.map_cons, List.map_nil, DeedD.cs]; rfl)⟩⟩)
  · (try simp only [decide_eq_true_eq, decide_eq_false_iff_not, beq_iff_eq, beq_eq_false_iff_ne, bne_iff_ne, bne_eq_false_iff_eq, Bool.not_eq_true', Bool.not_eq_false', ne_eq, Bool.not_eq_eq_eq_not, Bool.not_true, Bool.not_false, gt_iff_lt, ge_iff_le, Bool.not_not] at h16)
    refine AL.n ?_
    refine AL.ro (rd_move rfl rfl) ?_
    refine AL.ro (rd_move rfl rfl) ?_
    refine AL.ro (rd_move rfl rfl) ?_
    refine AL.ro (rd_nilc_bx rfl rfl rfl) ?_
    refine AL.ro (rd_faddr_bx rfl fo_99_1 rfl rfl ⟨_, _, rfl⟩) ?_
    refine AL.ro (rd_iaddr_bx (i := 3) rfl ar_37 rfl rfl rfl (by first | rfl | omega) (by decide)) ?_
    refine AL.ro (rd_load_bx rfl ag_29 rfl rfl rfl) ?_
    refine AL.ro (rd_len_owM rfl el_29 rfl rfl) ?_
    refine AL.ro (rd_bin rfl rfl rfl (fun _ => rfl)) ?_
    refine AL.r (rd_pick_f rfl rfl rfl) ?_
    refine AL.nil ?_
    change AW _ _ _ _ _
    refine AW.cond rfl (fun h26 => ?_) (fun h26 => ?_)
    · (try simp only [decide_eq_true_eq, decide_eq_false_iff_not, beq_iff_eq, beq_eq_false_iff_ne, bne_iff_ne, bne_eq_false_iff_eq, Bool.not_eq_true', Bool.not_eq_false', ne_eq, Bool.not_eq_eq_eq_not, Bool.not_true, Bool.not_false, gt_iff_lt, ge_iff_le, Bool.not_not] at h26)
      refine AW.seq ?_
      refine AW.region ?_
      refine AL.r (rd_assign rfl rfl) ?_
      refine AL.nil ?_
      change AW _ _ _ _ _
      refine AW.ret ?_
      repeat with_reducible first | refine thenA_ret ?_ | refine inBlockA_ret ?_
      with_reducible first | refine retO_ret ?_ | refine retO_normal ?_
      refine reso1 rfl (Nat.le_of_ble_eq_true rfl) (by simp only [cleanS, cle_owM, cle_own, cle_nown, cle_obj, cle_off, cle_box, okC, liveA, List.take_succ_cons, List.take_zero, List.all_cons, List.all_nil, List.getElem?_cons_zero, List.getElem?_cons_succ, isO_owM, isO_own, isO_nown, TC.isB, beq_self_eq_true, Bool.and_self, Bool.and_true, ok1, ok2, List.map_cons, List.map_nil]) (ResV.tmp rfl) rfl (by simp only [cleanS, cle_owM, cle_own, cle_nown, cle_obj, cle_off, cle_box, okC, liveA, List.take_succ_cons, List.take_zero, List.all_cons, List.all_nil, List.getElem?_cons_zero, List.getElem?_cons_succ, isO_owM, isO_own, isO_nown, TC.isB, beq_self_eq_true, Bool.and_self, Bool.and_true, ok1, ok2, List.map_cons, List.map_nil]) ?_
      first | (have e := cut_arg (d := d) (i := 3) (.inl h16); exact ⟨by first | rfl | (rw [e.1]; done) | (rw [e.1]; rfl), by rw [e.2]; exact ⟨_, _, _, _, _, _, _, _, _, by first | rfl | (simp only [diskT, pushD, cutD1, Int.toNat_natCast, List.map_append, List.map_cons, List.map_nil, DeedD.cs]; rfl)⟩⟩) | (have e := cut_arg (d := d) (i := 3) (.inr h26); exact ⟨by first | rfl | (rw [e.1]; done) | (rw [e.1]; rfl), by rw [e.2]; exact ⟨_, _, _, _, _, _, _, _, _, by first | rfl | (simp only [diskT, pushD, cutD1, Int.toNat_natCast, List.map_append, List.map_cons, List.map_nil, DeedD.cs]; rfl)⟩⟩) | (have e := cut_dark (d := d) (i := 3) h16 h26 h31; exact ⟨by first | rfl | (rw [e.1]; done) | (rw [e.1]; rfl), by rw [e.2]; exact ⟨_, _, _, _, _, _, _, _, _, by first | rfl | (simp only [diskT, pushD, cutD1, Int.toNat_natCast, List.map_append, List.map_cons, List.map_nil, DeedD.cs]; rfl)⟩⟩) | (have e := cut_burn (d := d) (i := 3) h16 h26 h31 h35; exact ⟨by first | rfl | (rw [e.1]; done) | (rw [e.1]; rfl), by rw [e.2]; exact ⟨_, _, _, _, _, _, _, _, _, by first | rfl | (simp only [diskT, pushD, cutD1, Int.toNat_natCast, List.map_append, List.map_cons, List.map_nil, DeedD.cs]; rfl)⟩⟩) | (have e := cut_go (d := d) (i := 3) h16 h26 h31 h35; exact ⟨by first | rfl | (rw [e.1]; done) | (rw [e.1]; rfl), by rw [e.2]; exact ⟨_, _, _, _, _, _, _, _, _, by first | rfl | (simp only [diskT, pushD, cutD1, Int.toNat_natCast, List.map_append, List.map_cons, List.map_nil, DeedD.cs]; rfl)⟩⟩)
    · (try simp only [decide_eq_true_eq, decide_eq_false_iff_not, beq_iff_eq, beq_eq_false_iff_ne, bne_iff_ne, bne_eq_false_iff_eq, Bool.not_eq_true', Bool.not_eq_false', ne_eq, Bool.not_eq_eq_eq_not, Bool.not_true, Bool.not_false, gt_iff_lt, ge_iff_le, Bool.not_not] at h26)
      refine AW.skip ?_
      change AW _ _ _ _ _
      refine AW.seq ?_
      refine AW.seq ?_
      refine AW.region ?_
      obtain ⟨m, rfl⟩ : ∃ m : Nat, n = (m : Int) := ⟨n.toNat, (by omega)⟩
      refine AL.r (rd_move rfl rfl) ?_
      refine AL.r (rd_nilc_bx rfl rfl rfl) ?_
      refine AL.r (rd_faddr_bx rfl fo_99_8 rfl rfl ⟨_, _, rfl⟩) ?_
      refine AL.r (rd_load_bx rfl ag_4 rfl rfl rfl) ?_
      refine AL.r (rd_move rfl rfl) ?_
      refine AL.fork (d := 31) rfl (fun h31 => ?_) (fun h31 => ?_)
      · (try simp only [decide_eq_true_eq, decide_eq_false_iff_not, beq_iff_eq, beq_eq_false_iff_ne, bne_iff_ne, bne_eq_false_iff_eq, Bool.not_eq_true', Bool.not_eq_false', ne_eq, Bool.not_eq_eq_eq_not, Bool.not_true, Bool.not_false, gt_iff_lt, ge_iff_le, Bool.not_not] at h31)
        refine AL.n ?_
        refine AL.rf ?_
        refine AL.rf ?_
        refine AL.rf ?_
        refine AL.r (rd_pick_t rfl rfl rfl) ?_
        refine AL.nil ?_
        change AW _ _ _ _ _
        refine AW.cond_t rfl ?_
        refine AW.seq ?_
        refine AW.region ?_
        refine AL.r (rd_assign rfl rfl) ?_
        refine AL.nil ?_
        change AW _ _ _ _ _
        refine AW.ret ?_
        repeat with_reducible first | refine thenA_ret ?_ | refine inBlockA_ret ?_
        with_reducible first | refine retO_ret ?_ | refine retO_normal ?_
        refine reso1 rfl (Nat.le_of_ble_eq_true rfl) (by simp only [cleanS, cle_owM, cle_own, cle_nown, cle_obj, cle_off, cle_box, okC, liveA, List.take_succ_cons, List.take_zero, List.all_cons, List.all_nil, List.getElem?_cons_zero, List.getElem?_cons_succ, isO_owM, isO_own, isO_nown, TC.isB, beq_self_eq_true, Bool.and_self, Bool.and_true, ok1, ok2, List.map_cons, List.map_nil]) (ResV.tmp rfl) rfl (by simp only [cleanS, cle_owM, cle_own, cle_nown, cle_obj, cle_off, cle_box, okC, liveA, List.take_succ_cons, List.take_zero, List.all_cons, List.all_nil, List.getElem?_cons_zero, List.getElem?_cons_succ, isO_owM, isO_own, isO_nown, TC.isB, beq_self_eq_true, Bool.and_self, Bool.and_true, ok1, ok2, List.map_cons, List.map_nil]) ?_
        first | (have e := cut_arg (d := d) (i := 3) (.inl h16); exact ⟨by first | rfl | (rw [e.1]; done) | (rw [e.1]; rfl), by rw [e.2]; exact ⟨_, _, _, _, _, _, _, _, _, by first | rfl | (simp only [diskT, pushD, cutD1, Int.toNat_natCast, List.map_append, List.map_cons, List.map_nil, DeedD.cs]; rfl)⟩⟩) | (have e := cut_arg (d := d) (i := 3) (.inr h26); exact ⟨by first | rfl | (rw [e.1]; done) | (rw [e.1]; rfl), by rw [e.2]; exact ⟨_, _, _, _, _, _, _, _, _, by first | rfl | (simp only [diskT, pushD, cutD1, Int.toNat_natCast, List.map_append, List.map_cons, List.map_nil, DeedD.cs]; rfl)⟩⟩) | (have e := cut_dark (d := d) (i := 3) h16 h26 h31; exact ⟨by first | rfl | (rw [e.1]; done) | (rw [e.1]; rfl), by rw [e.2]; exact ⟨_, _, _, _, _, _, _, _, _, by first | rfl | (simp only [diskT, pushD, cutD1, Int.toNat_natCast, List.map_append, List.map_cons, List.map_nil, DeedD.cs]; rfl)⟩⟩) | (have e := cut_burn (d := d) (i := 3) h16 h26 h31 h35; exact ⟨by first | rfl | (rw [e.1]; done) | (rw [e.1]; rfl), by rw [e.2]; exact ⟨_, _, _, _, _, _, _, _, _, by first | rfl | (simp only [diskT, pushD, cutD1, Int.toNat_natCast, List.map_append, List.map_cons, List.map_nil, DeedD.cs]; rfl)⟩⟩) | (have e := cut_go (d := d) (i := 3) h16 h26 h31 h35; exact ⟨by first | rfl | (rw [e.1]; done) | (rw [e.1]; rfl), by rw [e.2]; exact ⟨_, _, _, _, _, _, _, _, _, by first | rfl | (simp only [diskT, pushD, cutD1, Int.toNat_natCast, List.map_append, List.map_cons, List.map_nil, DeedD.cs]; rfl)⟩⟩)
      · (try simp only [decide_eq_true_eq, decide_eq_false_iff_not, beq_iff_eq, beq_eq_false_iff_ne, bne_iff_ne, bne_eq_false_iff_eq, Bool.not_eq_true', Bool.not_eq_false', ne_eq, Bool.not_eq_eq_eq_not, Bool.not_true, Bool.not_false, gt_iff_lt, ge_iff_le, Bool.not_not] at h31)
        refine AL.n ?_
        refine AL.ro (rd_move rfl rfl) ?_
        refine AL.on rfl rfl rfl (op_callo (burn_c d g g1 g2 g3 g4 g5 g6 g7 g8 g9 1 h.fuse (by omega)) rfl (by kernel_rfl) [0, 1, 2, 3, 4, 5, 6, 7, 8, 9] (by decide) (by simp only [diskT, List.map_cons, List.map_nil, renT, renC_owM, renC_box, renC_own, renC_nown, renC_obj, renC_off, ren0, List.getD_cons_zero, List.getD_cons_succ]; exact ⟨rfl, rfl, rfl, rfl, rfl, rfl, rfl, rfl, rfl, rfl, trivial⟩) rfl (by simp only [diskT, cleanS, cle_owM, cle_own, cle_nown, cle_obj, cle_off, cle_box, okC, liveA, List.take_succ_cons, List.take_zero, List.all_cons, List.all_nil, List.getElem?_cons_zero, List.getElem?_cons_succ, isO_owM, isO_own, isO_nown, TC.isB, beq_self_eq_true, Bool.and_self, Bool.and_true, ok1, ok2, List.map_cons, List.map_nil]) (by simp only [diskT, cleanS, cle_owM, cle_own, cle_nown, cle_obj, cle_off, cle_box, okC, liveA, List.take_succ_cons, List.take_zero, List.all_cons, List.all_nil, List.getElem?_cons_zero, List.getElem?_cons_succ, isO_owM, isO_own, isO_nown, TC.isB, beq_self_eq_true, Bool.and_self, Bool.and_true, ok1, ok2, List.map_cons, List.map_nil]) ?_)
        rintro y os' ⟨rfl, rfl⟩
        refine AL.no ?_ (by (try simp only [diskT, putA, evA, List.getD_cons_zero, List.getD_cons_succ, List.set_cons_zero, List.set_cons_succ, List.length_map, KR, splA, List.map_cons, List.map_nil, List.length_append, List.length_cons, List.length_nil, List.drop_zero, csS_len, csS_take, csS_drop, csS_app, byA_len, byA_take, byA_drop, byA_app, ← List.map_take, ← List.map_drop, ← List.map_append, List.take_succ_cons, List.take_zero, List.drop_succ_cons, List.cons_append, List.nil_append, Nat.zero_add, Nat.reduceAdd, Nat.reduceMul, Nat.add_zero, Nat.mul_one, putT, renT, renC_owM, renC_box, renC_own, renC_nown, renC_obj, renC_off, ren2, ren1, ren0, ok1, ok2]); (try rfl)) (by (try simp only [diskT, putA, evA, List.getD_cons_zero, List.getD_cons_succ, List.set_cons_zero, List.set_cons_succ, List.length_map, KR, splA, List.map_cons, List.map_nil, List.length_append, List.length_cons, List.length_nil, List.drop_zero, csS_len, csS_take, csS_drop, csS_app, byA_len, byA_take, byA_drop, byA_app, ← List.map_take, ← List.map_drop, ← List.map_append, List.take_succ_cons, List.take_zero, List.drop_succ_cons, List.cons_append, List.nil_append, Nat.zero_add, Nat.reduceAdd, Nat.reduceMul, Nat.add_zero, Nat.mul_one, putT, renT, renC_owM, renC_box, renC_own, renC_nown, renC_obj, renC_off, ren2, ren1, ren0, ok1, ok2]); (try rfl))
        refine AL.ro (rd_bin rfl rfl rfl (fun _ => rfl)) ?_
        refine AL.r (rd_pick_f rfl rfl rfl) ?_
        refine AL.nil ?_
        change AW _ _ _ _ _
        refine AW.cond rfl (fun h35 => ?_) (fun h35 => ?_)
        · (try simp only [decide_eq_true_eq, decide_eq_false_iff_not, beq_iff_eq, beq_eq_false_iff_ne, bne_iff_ne, bne_eq_false_iff_eq, Bool.not_eq_true', Bool.not_eq_false', ne_eq, Bool.not_eq_eq_eq_not, Bool.not_true, Bool.not_false, gt_iff_lt, ge_iff_le, Bool.not_not] at h35)
          refine AW.seq ?_
          refine AW.region ?_
          refine AL.r (rd_assign rfl rfl) ?_
          refine AL.nil ?_
          change AW _ _ _ _ _
          refine AW.ret ?_
          repeat with_reducible first | refine thenA_ret ?_ | refine inBlockA_ret ?_
          with_reducible first | refine retO_ret ?_ | refine retO_normal ?_
          refine reso1 rfl (Nat.le_of_ble_eq_true rfl) (by simp only [cleanS, cle_owM, cle_own, cle_nown, cle_obj, cle_off, cle_box, okC, liveA, List.take_succ_cons, List.take_zero, List.all_cons, List.all_nil, List.getElem?_cons_zero, List.getElem?_cons_succ, isO_owM, isO_own, isO_nown, TC.isB, beq_self_eq_true, Bool.and_self, Bool.and_true, ok1, ok2, List.map_cons, List.map_nil]) (ResV.tmp rfl) rfl (by simp only [cleanS, cle_owM, cle_own, cle_nown, cle_obj, cle_off, cle_box, okC, liveA, List.take_succ_cons, List.take_zero, List.all_cons, List.all_nil, List.getElem?_cons_zero, List.getElem?_cons_succ, isO_owM, isO_own, isO_nown, TC.isB, beq_self_eq_true, Bool.and_self, Bool.and_true, ok1, ok2, List.map_cons, List.map_nil]) ?_
          first | (have e := cut_arg (d := d) (i := 3) (.inl h16); exact ⟨by first | rfl | (rw [e.1]; done) | (rw [e.1]; rfl), by rw [e.2]; exact ⟨_, _, _, _, _, _, _, _, _, by first | rfl | (simp only [diskT, pushD, cutD1, Int.toNat_natCast, List.map_append, List.map_cons, List.map_nil, DeedD.cs]; rfl)⟩⟩) | (have e := cut_arg (d := d) (i := 3) (.inr h26); exact ⟨by first | rfl | (rw [e.1]; done) | (rw [e.1]; rfl), by rw [e.2]; exact ⟨_, _, _, _, _, _, _, _, _, by first | rfl | (simp only [diskT, pushD, cutD1, Int.toNat_natCast, List.map_append, List.map_cons, List.map_nil, DeedD.cs]; rfl)⟩⟩) | (have e := cut_dark (d := d) (i := 3) h16 h26 h31; exact ⟨by first | rfl | (rw [e.1]; done) | (rw [e.1]; rfl), by rw [e.2]; exact ⟨_, _, _, _, _, _, _, _, _, by first | rfl | (simp only [diskT, pushD, cutD1, Int.toNat_natCast, List.map_append, List.map_cons, List.map_nil, DeedD.cs]; rfl)⟩⟩) | (have e := cut_burn (d := d) (i := 3) h16 h26 h31 h35; exact ⟨by first | rfl | (rw [e.1]; done) | (rw [e.1]; rfl), by rw [e.2]; exact ⟨_, _, _, _, _, _, _, _, _, by first | rfl | (simp only [diskT, pushD, cutD1, Int.toNat_natCast, List.map_append, List.map_cons, List.map_nil, DeedD.cs]; rfl)⟩⟩) | (have e := cut_go (d := d) (i := 3) h16 h26 h31 h35; exact ⟨by first | rfl | (rw [e.1]; done) | (rw [e.1]; rfl), by rw [e.2]; exact ⟨_, _, _, _, _, _, _, _, _, by first | rfl | (simp only [diskT, pushD, cutD1, Int.toNat_natCast, List.map_append, List.map_cons, List.map_nil, DeedD.cs]; rfl)⟩⟩)
        · (try simp only [decide_eq_true_eq, decide_eq_false_iff_not, beq_iff_eq, beq_eq_false_iff_ne, bne_iff_ne, bne_eq_false_iff_eq, Bool.not_eq_true', Bool.not_eq_false', ne_eq, Bool.not_eq_eq_eq_not, Bool.not_true, Bool.not_false, gt_iff_lt, ge_iff_le, Bool.not_not] at h35)
          refine AW.skip ?_
          change AW _ _ _ _ _
          refine AW.seq ?_
          apply AW.drawS (by kernel_rfl)
          · skip
            refine ADA.r 0 rfl (ARdP.a (rdP_move rfl rfl)) rfl ?_
            refine ADA.r 1 rfl (ARdP.a (rdP_move rfl rfl)) rfl ?_
            refine ADA.r 2 rfl (ARdP.a (rdP_move rfl rfl)) rfl ?_
            refine ADA.r 3 rfl (ARdP.a (rdP_move rfl rfl)) rfl ?_
            refine ADA.r 4 rfl (ARdP.a (rdP_nilc_bx rfl rfl rfl)) rfl ?_
            refine ADA.r 5 rfl (ARdP.a (rdP_faddr_bx rfl fo_99_1 rfl rfl ⟨_, _, rfl⟩)) rfl ?_
            refine ADA.r 6 rfl (ARdP.a (rdP_iaddr_bx (i := 3) rfl ar_37 rfl rfl rfl (by first | rfl | omega) (by decide))) rfl ?_
            refine ADA.r 8 rfl (ARdP.a (rdP_move rfl rfl)) rfl ?_
            refine ADA.r 10 rfl (ARdP.a (rdP_nilc_bx rfl rfl rfl)) rfl ?_
            refine ADA.r 11 rfl (ARdP.a (rdP_faddr_bx rfl fo_99_1 rfl rfl ⟨_, _, rfl⟩)) rfl ?_
            refine ADA.b ?_
            refine ADB.move 7 rfl (by kernel_rfl) rfl (AOpB.op (ARd.opB (rd_load_bx rfl ag_29 rfl rfl rfl) ?_))
            refine ADB.n ?_
            refine ADB.move 9 rfl (by kernel_rfl) rfl (AOpB.op (op_sliceM (n := m) rfl el_29 rfl rfl rfl rfl (by simp only [byA_len, burnD]; omega) ?_))
            refine ADB.n ?_
            refine ADB.r 12 rfl (rdP_iaddr_bx (i := 3) rfl ar_37 rfl rfl rfl (by first | rfl | omega) (by decide)) rfl ?_
            refine ADB.move 13 rfl (by kernel_rfl) rfl (op_store rfl rfl rfl rfl rfl (by first | exact live_owM rfl | exact live_own rfl | exact live_nown rfl | rfl) sz_29 (Nat.le_of_ble_eq_true rfl) ?_)
            refine ADB.n ?_
            refine ADB.done (by kernel_rfl) ?_
            exact ⟨rfl, rfl⟩
          skip
          change AW _ _ _ _ _
          refine AW.seq ?_
          refine AW.region ?_
          refine AL.r (rd_move rfl rfl) ?_
          refine AL.r (rd_move rfl rfl) ?_
          refine AL.r (rd_nilc_bx rfl rfl rfl) ?_
          refine AL.r (rd_faddr_bx rfl fo_99_3 rfl rfl ⟨_, _, rfl⟩) ?_
          refine AL.r (rd_load_bx rfl ag_97 rfl rfl rfl) ?_
          refine AL.r (rd_move rfl rfl) ?_
          refine AL.r (rd_move rfl rfl) ?_
          refine AL.r (rd_build rfl pl_102 ze_102 rfl rfl) ?_
          refine AL.op rfl (AOpB.op (bs_set rfl ap_97 ze_102 rfl rfl ?_))
          refine AL.no ?_
          refine AL.op rfl (op_appendM rfl ap_97 rfl rfl (src_sl rfl (by first | exact csS_one | exact byA_one | (intro cs hcs; obtain rfl := List.mem_singleton.1 hcs; rfl) | (intro cs hcs; obtain ⟨_, _, rfl⟩ := List.mem_map.1 hcs; rfl) | simp)) (by simp [burnD]; omega) (by simp [burnD]; omega) ?_)
          refine AL.no ?_
          refine AL.r (rd_nilc_bx rfl rfl rfl) ?_
          refine AL.r (rd_faddr_bx rfl fo_99_3 rfl rfl ⟨_, _, rfl⟩) ?_
          refine AL.op rfl (op_store rfl rfl rfl rfl rfl (by first | exact live_owM rfl | exact live_own rfl | exact live_nown rfl | rfl) sz_97 (Nat.le_of_ble_eq_true rfl) ?_)
          refine AL.no ?_
          refine AL.nil ?_
          change AW _ _ _ _ _
          refine AW.seq ?_
          refine AW.region ?_
          refine AL.r (rd_move rfl rfl) ?_
          refine AL.r (rd_nilc_bx rfl rfl rfl) ?_
          refine AL.r (rd_faddr_bx rfl fo_99_4 rfl rfl ⟨_, _, rfl⟩) ?_
          refine AL.r (rd_load_bx rfl ag_3 rfl rfl rfl) ?_
          refine AL.r (rd_arith_add rfl rfl rfl (IntWalk.i64_in _ (by simp only [burnD]; omega))) ?_
          refine AL.r (rd_nilc_bx rfl rfl rfl) ?_
          refine AL.r (rd_faddr_bx rfl fo_99_4 rfl rfl ⟨_, _, rfl⟩) ?_
          refine AL.op rfl (op_store rfl rfl rfl rfl rfl rfl sz_3 (Nat.le_of_ble_eq_true rfl) ?_)
          refine AL.no ?_
          refine AL.nil ?_
          change AW _ _ _ _ _
          refine AW.seq ?_
          refine AW.region ?_
          refine AL.r (rd_assign rfl rfl) ?_
          refine AL.nil ?_
          change AW _ _ _ _ _
          refine AW.ret ?_
          repeat with_reducible first | refine thenA_ret ?_ | refine inBlockA_ret ?_
          with_reducible first | refine retO_ret ?_ | refine retO_normal ?_
          refine reso1 rfl (Nat.le_of_ble_eq_true rfl) (by simp only [cleanS, cle_owM, cle_own, cle_nown, cle_obj, cle_off, cle_box, okC, liveA, List.take_succ_cons, List.take_zero, List.all_cons, List.all_nil, List.getElem?_cons_zero, List.getElem?_cons_succ, isO_owM, isO_own, isO_nown, TC.isB, beq_self_eq_true, Bool.and_self, Bool.and_true, ok1, ok2, List.map_cons, List.map_nil]) (ResV.tmp rfl) rfl (by simp only [cleanS, cle_owM, cle_own, cle_nown, cle_obj, cle_off, cle_box, okC, liveA, List.take_succ_cons, List.take_zero, List.all_cons, List.all_nil, List.getElem?_cons_zero, List.getElem?_cons_succ, isO_owM, isO_own, isO_nown, TC.isB, beq_self_eq_true, Bool.and_self, Bool.and_true, ok1, ok2, List.map_cons, List.map_nil]) ?_
          first | (have e := cut_arg (d := d) (i := 3) (.inl h16); exact ⟨by first | rfl | (rw [e.1]; done) | (rw [e.1]; rfl), by rw [e.2]; exact ⟨_, _, _, _, _, _, _, _, _, by first | rfl | (simp only [diskT, pushD, cutD1, Int.toNat_natCast, List.map_append, List.map_cons, List.map_nil, DeedD.cs]; rfl)⟩⟩) | (have e := cut_arg (d := d) (i := 3) (.inr h26); exact ⟨by first | rfl | (rw [e.1]; done) | (rw [e.1]; rfl), by rw [e.2]; exact ⟨_, _, _, _, _, _, _, _, _, by first | rfl | (simp only [diskT, pushD, cutD1, Int.toNat_natCast, List.map_append, List.map_cons, List.map_nil, DeedD.cs]; rfl)⟩⟩) | (have e := cut_dark (d := d) (i := 3) h16 h26 h31; exact ⟨by first | rfl | (rw [e.1]; done) | (rw [e.1]; rfl), by rw [e.2]; exact ⟨_, _, _, _, _, _, _, _, _, by first | rfl | (simp only [diskT, pushD, cutD1, Int.toNat_natCast, List.map_append, List.map_cons, List.map_nil, DeedD.cs]; rfl)⟩⟩) | (have e := cut_burn (d := d) (i := 3) h16 h26 h31 h35; exact ⟨by first | rfl | (rw [e.1]; done) | (rw [e.1]; rfl), by rw [e.2]; exact ⟨_, _, _, _, _, _, _, _, _, by first | rfl | (simp only [diskT, pushD, cutD1, Int.toNat_natCast, List.map_append, List.map_cons, List.map_nil, DeedD.cs]; rfl)⟩⟩) | (have e := cut_go (d := d) (i := 3) h16 h26 h31 h35; exact ⟨by first | rfl | (rw [e.1]; done) | (rw [e.1]; rfl), by rw [e.2]; exact ⟨_, _, _, _, _, _, _, _, _, by first | rfl | (simp only [diskT, pushD, cutD1, Int.toNat_natCast, List.map_append, List.map_cons, List.map_nil, DeedD.cs]; rfl)⟩⟩)
end
end Go.Proofs.Ytgjpeldgjpgbcaa
