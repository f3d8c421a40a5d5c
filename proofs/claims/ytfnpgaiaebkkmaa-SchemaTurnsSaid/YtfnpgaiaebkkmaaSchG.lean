/- The law SchemaTurns, walked over abstract states. No conditions. -/
import Derived.Test.YtfnpgaiaebkkmaaSchE
import Derived.Test.YtfnpgaiaebkkmaaSchF
namespace Go.Proofs.Ytfnpgaiaebkkmaa
set_option linter.unusedSimpArgs false
set_option linter.unusedVariables false
set_option maxRecDepth 100000
open Go.RowKit

theorem without_c (l : List FldD) (r : RefD) (hl : smallS l) : AC Try.prog 19 [.sl (l.map FldD.cs), r.av] (fun x => x = .s (.tu [.sl ((lessW l r).1.map FldD.cs), AI (lessW l r).2])) := by
  have hl1 := hl.1
  refine AC.of (t0 := [.sl (l.map FldD.cs), r.av, AV.sc undef, AV.sc undef, AV.sc undef, AV.sc undef, AV.sc undef, AV.sc undef, AV.sc undef, AV.sc undef, AV.sc undef, AV.sc undef, AV.sc undef, AV.sc undef, AV.sc undef, AV.sc undef, AV.sc undef, AV.sc undef, AV.sc undef, AV.sc undef, AV.sc undef, AV.sc undef, AV.sc undef, AV.sc undef, AV.sc undef, AV.sc undef, AV.sc undef, AV.sc undef, AV.sc undef, AV.sc undef, AV.sc undef, AV.sc undef, AV.sc undef, AV.sc undef, AV.sc undef, AV.sc undef, AV.sc undef, AV.sc undef, AV.sc undef]) 5 Try.func19 rfl rfl ?_
  change AW _ _ _ _ [TK.mk 0 .off, TK.mk 0 .off, TK.mk 0 .off, TK.mk 0 .off, TK.mk 0 .off]
  refine AW.seq ?_
  refine AW.region ?_
  refine AL.op rfl (AOpB.op (op_box 0 rfl rfl rfl rfl rfl ?_))
  refine AL.n ?_
  refine AL.r (rd_assign rfl rfl) ?_
  refine AL.r (rd_assign rfl rfl) ?_
  refine AL.nil ?_
  change AW _ _ _ _ _
  refine AW.seq ?_
  refine AW.seq ?_
  refine AW.region ?_
  refine AL.r (rd_move rfl rfl) ?_
  refine AL.op rfl (AOpB.op (op_call (sright_c l) rfl (by kernel_rfl) rfl (none) ?_))
  rintro r rfl
  refine AL.n ?_
  refine AL.r (rd_un rfl rfl (fun _ => rfl)) ?_
  refine AL.nil ?_
  change AW _ _ _ _ _
  refine AW.cond rfl (fun h12 => ?_) (fun h12 => ?_)
  · (try simp only [decide_eq_true_eq, decide_eq_false_iff_not, beq_iff_eq, beq_eq_false_iff_ne, bne_iff_ne, bne_eq_false_iff_eq, Bool.not_eq_true', Bool.not_eq_false', ne_eq, Bool.not_eq_eq_eq_not, Bool.not_true, Bool.not_false, gt_iff_lt, ge_iff_le, Bool.not_not] at h12)
    refine AW.seq ?_
    refine AW.region ?_
    refine AL.r (rd_assign rfl rfl) ?_
    refine AL.r (rd_assign rfl rfl) ?_
    refine AL.nil ?_
    change AW _ _ _ _ _
    refine AW.ret ?_
    change ResA _ _ _ _ _
    refine res2 rfl (ResV.tmp rfl) rfl (ResV.tmp rfl) rfl ?_
    (have e : lessW l r = ([], 5) := by (unfold lessW; rw [if_pos (by simp_all)])); rw [e]; rfl
  · (try simp only [decide_eq_true_eq, decide_eq_false_iff_not, beq_iff_eq, beq_eq_false_iff_ne, bne_iff_ne, bne_eq_false_iff_eq, Bool.not_eq_true', Bool.not_eq_false', ne_eq, Bool.not_eq_eq_eq_not, Bool.not_true, Bool.not_false, gt_iff_lt, ge_iff_le, Bool.not_not] at h12)
    refine AW.skip ?_
    change AW _ _ _ _ _
    refine AW.seq ?_
    refine AW.region ?_
    refine AL.r (rd_move rfl rfl) ?_
    refine AL.r (rd_loadN_bx rfl ag_27 rfl rfl (Nat.le_of_ble_eq_true rfl) rfl) ?_
    refine AL.op rfl (AOpB.op (op_call (sindex_c l r (by omega)) rfl (by kernel_rfl) rfl (none) ?_))
    rintro r rfl
    refine AL.n ?_
    refine AL.r (rd_assign rfl rfl) ?_
    refine AL.nil ?_
    change AW _ _ _ _ _
    refine AW.seq ?_
    refine AW.seq ?_
    refine AW.region ?_
    refine AL.r (rd_move rfl rfl) ?_
    refine AL.r (rd_bin rfl rfl rfl (fun _ => rfl)) ?_
    refine AL.nil ?_
    change AW _ _ _ _ _
    refine AW.cond rfl (fun h17 => ?_) (fun h17 => ?_)
    · (try simp only [decide_eq_true_eq, decide_eq_false_iff_not, beq_iff_eq, beq_eq_false_iff_ne, bne_iff_ne, bne_eq_false_iff_eq, Bool.not_eq_true', Bool.not_eq_false', ne_eq, Bool.not_eq_eq_eq_not, Bool.not_true, Bool.not_false, gt_iff_lt, ge_iff_le, Bool.not_not] at h17)
      refine AW.seq ?_
      refine AW.region ?_
      refine AL.r (rd_assign rfl rfl) ?_
      refine AL.r (rd_assign rfl rfl) ?_
      refine AL.nil ?_
      change AW _ _ _ _ _
      refine AW.ret ?_
      change ResA _ _ _ _ _
      refine res2 rfl (ResV.tmp rfl) rfl (ResV.tmp rfl) rfl ?_
      (have e : lessW l r = ([], 6) := by (unfold lessW; rw [if_neg (by simp_all), if_pos (by omega)])); rw [e]; rfl
    · (try simp only [decide_eq_true_eq, decide_eq_false_iff_not, beq_iff_eq, beq_eq_false_iff_ne, bne_iff_ne, bne_eq_false_iff_eq, Bool.not_eq_true', Bool.not_eq_false', ne_eq, Bool.not_eq_eq_eq_not, Bool.not_true, Bool.not_false, gt_iff_lt, ge_iff_le, Bool.not_not] at h17)
      refine AW.skip ?_
      change AW _ _ _ _ _
      refine AW.seq ?_
      refine AW.region ?_
      (have hs : srt l := ((rightS_iff l).1 (by simpa using h12)).2.2); (have hne : l ≠ [] := fun e => by (subst e; exact h17 (show (-1 : Int) < 0 by decide))); (have hpos := List.length_pos_iff.2 hne)
      refine AL.r (rd_move rfl rfl) ?_
      refine AL.r (rd_len_sl rfl el_23 rfl) ?_
      refine AL.r (rd_arith_sub rfl rfl rfl (by first | exact IntWalk.i64_in _ (by omega) | rfl)) ?_
      refine AL.op rfl (AOpB.op (op_make0 1 rfl ap_23 rfl rfl (n := l.length - 1) (by omega) (by omega) (by omega) rfl ?_))
      refine AL.n ?_
      refine AL.r (rd_assign rfl rfl) ?_
      refine AL.nil ?_
      change AW _ _ _ _ _
      refine AW.seq ?_
      refine AW.seq ?_
      refine AW.region ?_
      refine AL.r (rd_move rfl rfl) ?_
      refine AL.r (rd_len_sl rfl el_23 rfl) ?_
      refine AL.r (rd_move rfl rfl) ?_
      refine AL.nil ?_
      change AW _ _ _ _ _
      refine AW.block ?_
      refine AW.loopM (ι := Nat × Nat) [8, 9, 25, 26, 27, 28, 29, 30, 31, 32, 33, 34, 35, 36, 37] (fun ⟨k, g⟩ => [(24, AI (k : Int)), (7, .ow 1 g)]) [2, 3, 4] (fun ⟨k, g⟩ => [(1, ⟨g, .own 30 7 (((l.take k).filter fun f => !decide (f.at_ = r)).map FldD.cs)⟩)]) (fun ⟨k, g⟩ => k ≤ l.length) (fun ⟨k, g⟩ => l.length - k) ⟨0, 1⟩ (Nat.zero_le _) (by simp only [anys, upds, offs, List.set_cons_zero, List.set_cons_succ]; repeat (first | exact Wk.nil | refine Wk.same ?_ | refine Wk.any ?_)) (by simp only [anys, upds, offs, List.set_cons_zero, List.set_cons_succ]; repeat (first | exact Sk.nil _ | refine Sk.same _ ?_ | refine Sk.scr _ (by decide) ?_)) ?_
      rintro ⟨k, g⟩ gs hJ
      refine AW.norm (by simp only [anys, upds, offs, List.set_cons_zero, List.set_cons_succ]; rfl) (by (try simp only [anys, upds, offs, List.set_cons_zero, List.set_cons_succ]); (try rfl)) ?_
      refine AW.seq ?_
      refine AW.region ?_
      refine AL.r (rd_bin rfl rfl rfl (fun _ => rfl)) ?_
      refine AL.nil ?_
      change AW _ _ _ _ _
      refine AW.seq ?_
      refine AW.cond rfl (fun h25 => ?_) (fun h25 => ?_)
      · (try simp only [decide_eq_true_eq, decide_eq_false_iff_not, beq_iff_eq, beq_eq_false_iff_ne, bne_iff_ne, bne_eq_false_iff_eq, Bool.not_eq_true', Bool.not_eq_false', ne_eq, Bool.not_eq_eq_eq_not, Bool.not_true, Bool.not_false, gt_iff_lt, ge_iff_le, Bool.not_not] at h25)
        refine AW.skip ?_
        change AW _ _ _ _ _
        refine AW.seq ?_
        refine AW.block ?_
        refine AW.seq ?_
        refine AW.region ?_
        refine AL.r (rd_move rfl rfl) ?_
        refine AL.r (rd_iaddr_sl rfl el_23 rfl rfl rfl (get_mapA (by omega)) rfl) ?_
        refine AL.r (rd_loadN_ep rfl ag_30 rfl (Nat.le_of_ble_eq_true rfl) rfl) ?_
        refine AL.op rfl (AOpB.op (op_alloc 2 rfl ze_30 rfl ?_))
        refine AL.n ?_
        refine AL.r (rd_assign rfl rfl) ?_
        refine AL.op rfl (op_store rfl rfl rfl rfl rfl rfl sz_30 (Nat.le_of_ble_eq_true rfl) ?_)
        refine AL.n ?_
        refine AL.nil ?_
        change AW _ _ _ _ _
        refine AW.seq ?_
        refine AW.region ?_
        refine AL.r (rd_move rfl rfl) ?_
        refine AL.r (rd_move rfl rfl) ?_
        refine AL.r (rd_bin rfl rfl rfl (fun _ => rfl)) ?_
        refine AL.nil ?_
        change AW _ _ _ _ _
        refine AW.cond rfl (fun h31 => ?_) (fun h31 => ?_)
        · (try simp only [decide_eq_true_eq, decide_eq_false_iff_not, beq_iff_eq, beq_eq_false_iff_ne, bne_iff_ne, bne_eq_false_iff_eq, Bool.not_eq_true', Bool.not_eq_false', ne_eq, Bool.not_eq_eq_eq_not, Bool.not_true, Bool.not_false, gt_iff_lt, ge_iff_le, Bool.not_not] at h31)
          refine AW.region ?_
          refine AL.r (rd_move rfl rfl) ?_
          refine AL.r (rd_loadN_bx rfl ag_30 rfl rfl (Nat.le_of_ble_eq_true rfl) rfl) ?_
          refine AL.op rfl (AOpB.op (op_call (own_c (l[k]'(by omega)) (hl.at_ (by omega))) rfl (by kernel_rfl) rfl (none) ?_))
          rintro r rfl
          refine AL.n ?_
          refine AL.op rfl (AOpB.op (bs_set rfl ap_23 ze_30 rfl rfl ?_))
          refine AL.n ?_
          refine AL.op rfl (op_append rfl ap_23 rfl rfl (src_sl rfl (by first | exact csS_one | exact byA_one | (intro cs hcs; obtain rfl := List.mem_singleton.1 hcs; rfl) | (intro cs hcs; obtain ⟨_, _, rfl⟩ := List.mem_map.1 hcs; rfl) | simp)) (by (have := List.length_filter_le (fun f : FldD => !decide (f.at_ = r)) (l.take k)); (have h2 := List.length_take_le k l); simp only [List.length_map, List.length_cons, List.length_nil]; omega) (by (have := List.length_filter_le (fun f : FldD => !decide (f.at_ = r)) (l.take k)); (have h2 := List.length_take_le k l); simp only [List.length_map, List.length_cons, List.length_nil]; omega) ?_)
          refine AL.n ?_
          refine AL.r (rd_assign rfl rfl) ?_
          refine AL.nil ?_
          change AW _ _ _ _ _
          refine AW.region ?_
          refine AL.r (rd_arith_add rfl rfl rfl (by first | exact IntWalk.i64_in _ (by omega) | rfl)) ?_
          refine AL.r (rd_move rfl rfl) ?_
          refine AL.nil ?_
          refine ⟨⟨k + 1, g + 1⟩, ?_, by first | omega | (simp only []; omega), ?_, ?_⟩
          · show k + 1 ≤ l.length; omega
          · simp only [anys, upds, offs, List.set_cons_zero, List.set_cons_succ]; repeat (first | exact Wk.nil | refine Wk.same ?_ | refine Wk.any ?_)
          · simp only [anys, upds, offs, List.set_cons_zero, List.set_cons_succ]; repeat (first | exact Sk.nil _ | refine Sk.same _ ?_ | refine Sk.scr _ (by decide) ?_ | refine Sk.eq _ (by first | exact congrArg (fun xs => TK.mk (g + 1) (.own 30 7 xs)) (take_filter_t (p := fun f : FldD => !decide (f.at_ = r)) (f := FldD.cs) (by omega) (by rw [decide_eq_false (fun e => h31 ((idxS_at hs (by omega)).1 e))]; rfl)) | exact congrArg (fun xs => TK.mk g (.own 30 7 xs)) (take_filter_f (p := fun f : FldD => !decide (f.at_ = r)) (f := FldD.cs) (by omega) (by rw [decide_eq_true ((idxS_at hs (by omega)).2 h31)]; rfl))) ?_)
        · (try simp only [decide_eq_true_eq, decide_eq_false_iff_not, beq_iff_eq, beq_eq_false_iff_ne, bne_iff_ne, bne_eq_false_iff_eq, Bool.not_eq_true', Bool.not_eq_false', ne_eq, Bool.not_eq_eq_eq_not, Bool.not_true, Bool.not_false, gt_iff_lt, ge_iff_le, Bool.not_not] at h31)
          refine AW.skip ?_
          change AW _ _ _ _ _
          refine AW.region ?_
          refine AL.r (rd_arith_add rfl rfl rfl (by first | exact IntWalk.i64_in _ (by omega) | rfl)) ?_
          refine AL.r (rd_move rfl rfl) ?_
          refine AL.nil ?_
          refine ⟨⟨k + 1, g⟩, ?_, by first | omega | (simp only []; omega), ?_, ?_⟩
          · show k + 1 ≤ l.length; omega
          · simp only [anys, upds, offs, List.set_cons_zero, List.set_cons_succ]; repeat (first | exact Wk.nil | refine Wk.same ?_ | refine Wk.any ?_)
          · simp only [anys, upds, offs, List.set_cons_zero, List.set_cons_succ]; repeat (first | exact Sk.nil _ | refine Sk.same _ ?_ | refine Sk.scr _ (by decide) ?_ | refine Sk.eq _ (by first | exact congrArg (fun xs => TK.mk (g + 1) (.own 30 7 xs)) (take_filter_t (p := fun f : FldD => !decide (f.at_ = r)) (f := FldD.cs) (by omega) (by rw [decide_eq_false (fun e => h31 ((idxS_at hs (by omega)).1 e))]; rfl)) | exact congrArg (fun xs => TK.mk g (.own 30 7 xs)) (take_filter_f (p := fun f : FldD => !decide (f.at_ = r)) (f := FldD.cs) (by omega) (by rw [decide_eq_true ((idxS_at hs (by omega)).2 h31)]; rfl))) ?_)
      · (try simp only [decide_eq_true_eq, decide_eq_false_iff_not, beq_iff_eq, beq_eq_false_iff_ne, bne_iff_ne, bne_eq_false_iff_eq, Bool.not_eq_true', Bool.not_eq_false', ne_eq, Bool.not_eq_eq_eq_not, Bool.not_true, Bool.not_false, gt_iff_lt, ge_iff_le, Bool.not_not] at h25)
        refine AW.exit ?_
        change AW _ _ _ _ _
        refine AW.seq ?_
        refine AW.region ?_
        refine AL.r (rd_move rfl rfl) ?_
        refine AL.r (rd_assign rfl rfl) ?_
        refine AL.r (rd_assign rfl rfl) ?_
        refine AL.nil ?_
        change AW _ _ _ _ _
        refine AW.ret ?_
        change ResA _ _ _ _ _
        refine res2 rfl (ResV.tmp rfl) (by first | rfl | exact setA_own rfl) (ResV.tmp rfl) rfl ?_
        (have e : lessW l r = (l.filter fun f => !decide (f.at_ = r), 0) := by (unfold lessW; rw [if_neg (by simp_all), if_neg (by omega)])); rw [e, List.take_of_length_le (by omega)]
theorem smallS.with_ {l : List FldD} {f : FldD} (h : smallS l) (hl : l.length ≤ 40) (hf : f.cases.length ≤ 1000000) : smallS (withS l f).1 := by
  rcases withS_cases l f with e | e
  · rw [e.1]; exact ⟨by simp, by simp⟩
  · rw [e]
    have := cutS_le l f.at_
    refine ⟨?_, fun x hx => ?_⟩
    · simp only [putS, List.length_append, List.length_cons, List.length_take, List.length_drop]; omega
    · simp only [putS, List.mem_append, List.mem_cons] at hx
      rcases hx with hx | hx | hx
      · exact h.2 x (List.mem_of_mem_take hx)
      · rw [hx]; exact hf
      · exact h.2 x (List.mem_of_mem_drop hx)
theorem smallS.less {l : List FldD} {r : RefD} (h : smallS l) : smallS (lessW l r).1 := by
  unfold lessW
  split
  · exact ⟨by simp, by simp⟩
  split
  · exact ⟨by simp, by simp⟩
  · exact h.filter _
theorem turns_c (l : List FldD) (f : FldD) (r : RefD) : AC Try.prog 6 [.sl (l.map FldD.cs), f.av, r.av] (fun x => x = .s (AB true)) := by
  refine AC.of (t0 := [.sl (l.map FldD.cs), f.av, r.av, AV.sc undef, AV.sc undef, AV.sc undef, AV.sc undef, AV.sc undef, AV.sc undef, AV.sc undef, AV.sc undef, AV.sc undef, AV.sc undef, AV.sc undef, AV.sc undef, AV.sc undef, AV.sc undef, AV.sc undef, AV.sc undef, AV.sc undef, AV.sc undef, AV.sc undef, AV.sc undef, AV.sc undef, AV.sc undef, AV.sc undef, AV.sc undef, AV.sc undef, AV.sc undef, AV.sc undef, AV.sc undef, AV.sc undef, AV.sc undef, AV.sc undef, AV.sc undef, AV.sc undef, AV.sc undef, AV.sc undef, AV.sc undef, AV.sc undef, AV.sc undef, AV.sc undef, AV.sc undef, AV.sc undef, AV.sc undef, AV.sc undef, AV.sc undef, AV.sc undef, AV.sc undef, AV.sc undef, AV.sc undef, AV.sc undef, AV.sc undef, AV.sc undef, AV.sc undef, AV.sc undef, AV.sc undef, AV.sc undef, AV.sc undef, AV.sc undef, AV.sc undef, AV.sc undef, AV.sc undef, AV.sc undef, AV.sc undef, AV.sc undef, AV.sc undef, AV.sc undef, AV.sc undef, AV.sc undef, AV.sc undef, AV.sc undef, AV.sc undef, AV.sc undef, AV.sc undef, AV.sc undef, AV.sc undef, AV.sc undef, AV.sc undef, AV.sc undef, AV.sc undef, AV.sc undef, AV.sc undef, AV.sc undef, AV.sc undef, AV.sc undef, AV.sc undef, AV.sc undef, AV.sc undef, AV.sc undef, AV.sc undef, AV.sc undef, AV.sc undef, AV.sc undef, AV.sc undef, AV.sc undef, AV.sc undef, AV.sc undef, AV.sc undef, AV.sc undef, AV.sc undef, AV.sc undef, AV.sc undef, AV.sc undef, AV.sc undef, AV.sc undef, AV.sc undef, AV.sc undef, AV.sc undef, AV.sc undef]) 3 Try.func6 rfl rfl ?_
  change AW _ _ _ _ [TK.mk 0 .off, TK.mk 0 .off, TK.mk 0 .off]
  refine AW.seq ?_
  refine AW.region ?_
  refine AL.op rfl (AOpB.op (op_box 0 rfl rfl rfl rfl rfl ?_))
  refine AL.n ?_
  refine AL.op rfl (AOpB.op (op_box 1 rfl rfl rfl rfl rfl ?_))
  refine AL.n ?_
  refine AL.r (rd_assign rfl rfl) ?_
  refine AL.nil ?_
  change AW _ _ _ _ _
  refine AW.seq ?_
  refine AW.seq ?_
  refine AW.region ?_
  refine AL.op rfl (AOpB.op (op_call (awake14) rfl (by kernel_rfl) rfl (none) ?_))
  rintro r rfl
  refine AL.n ?_
  refine AL.r (rd_un rfl rfl (fun _ => rfl)) ?_
  refine AL.nil ?_
  change AW _ _ _ _ _
  refine AW.cond rfl (fun h20 => ?_) (fun h20 => ?_)
  · (try simp only [decide_eq_true_eq, decide_eq_false_iff_not, beq_iff_eq, beq_eq_false_iff_ne, bne_iff_ne, bne_eq_false_iff_eq, Bool.not_eq_true', Bool.not_eq_false', ne_eq, Bool.not_eq_eq_eq_not, Bool.not_true, Bool.not_false, gt_iff_lt, ge_iff_le, Bool.not_not] at h20)
    refine AW.seq ?_
    cases h20
  · (try simp only [decide_eq_true_eq, decide_eq_false_iff_not, beq_iff_eq, beq_eq_false_iff_ne, bne_iff_ne, bne_eq_false_iff_eq, Bool.not_eq_true', Bool.not_eq_false', ne_eq, Bool.not_eq_eq_eq_not, Bool.not_true, Bool.not_false, gt_iff_lt, ge_iff_le, Bool.not_not] at h20)
    refine AW.skip ?_
    change AW _ _ _ _ _
    refine AW.seq ?_
    refine AW.seq ?_
    refine AW.region ?_
    refine AL.r (rd_move rfl rfl) ?_
    refine AL.op rfl (AOpB.op (op_call (rheavy14 _) rfl (by kernel_rfl) rfl (none) ?_))
    rintro r rfl
    refine AL.n ?_
    refine AL.r (rd_move rfl rfl) ?_
    refine AL.fork (d := 23) rfl (fun h23 => ?_) (fun h23 => ?_)
    · (try simp only [decide_eq_true_eq, decide_eq_false_iff_not, beq_iff_eq, beq_eq_false_iff_ne, bne_iff_ne, bne_eq_false_iff_eq, Bool.not_eq_true', Bool.not_eq_false', ne_eq, Bool.not_eq_eq_eq_not, Bool.not_true, Bool.not_false, gt_iff_lt, ge_iff_le, Bool.not_not] at h23)
      refine AL.n ?_
      refine AL.rf ?_
      refine AL.rf ?_
      refine AL.r (rd_pick_t rfl rfl rfl) ?_
      refine AL.nil ?_
      change AW _ _ _ _ _
      refine AW.cond_t rfl ?_
      refine AW.seq ?_
      refine AW.region ?_
      refine AL.r (rd_assign rfl rfl) ?_
      refine AL.nil ?_
      change AW _ _ _ _ _
      refine AW.ret ?_
      change ResA _ _ _ _ _
      refine res1 rfl (ResV.tmp rfl) rfl ?_
      first | rfl | simp
    · (try simp only [decide_eq_true_eq, decide_eq_false_iff_not, beq_iff_eq, beq_eq_false_iff_ne, bne_iff_ne, bne_eq_false_iff_eq, Bool.not_eq_true', Bool.not_eq_false', ne_eq, Bool.not_eq_eq_eq_not, Bool.not_true, Bool.not_false, gt_iff_lt, ge_iff_le, Bool.not_not] at h23)
      refine AL.n ?_
      refine AL.ro (rd_loadN_bx rfl ag_30 rfl rfl (Nat.le_of_ble_eq_true rfl) rfl) ?_
      refine AL.on rfl rfl rfl (AOpB.op (op_call (rheavy_c f) rfl (by kernel_rfl) rfl (none) ?_))
      rintro r rfl
      refine AL.n ?_
      refine AL.r (rd_pick_f rfl rfl rfl) ?_
      refine AL.nil ?_
      change AW _ _ _ _ _
      refine AW.cond rfl (fun h26 => ?_) (fun h26 => ?_)
      · (try simp only [decide_eq_true_eq, decide_eq_false_iff_not, beq_iff_eq, beq_eq_false_iff_ne, bne_iff_ne, bne_eq_false_iff_eq, Bool.not_eq_true', Bool.not_eq_false', ne_eq, Bool.not_eq_eq_eq_not, Bool.not_true, Bool.not_false, gt_iff_lt, ge_iff_le, Bool.not_not] at h26)
        refine AW.seq ?_
        refine AW.region ?_
        refine AL.r (rd_assign rfl rfl) ?_
        refine AL.nil ?_
        change AW _ _ _ _ _
        refine AW.ret ?_
        change ResA _ _ _ _ _
        refine res1 rfl (ResV.tmp rfl) rfl ?_
        first | rfl | simp
      · (try simp only [decide_eq_true_eq, decide_eq_false_iff_not, beq_iff_eq, beq_eq_false_iff_ne, bne_iff_ne, bne_eq_false_iff_eq, Bool.not_eq_true', Bool.not_eq_false', ne_eq, Bool.not_eq_eq_eq_not, Bool.not_true, Bool.not_false, gt_iff_lt, ge_iff_le, Bool.not_not] at h26)
        refine AW.skip ?_
        change AW _ _ _ _ _
        refine AW.seq ?_
        refine AW.region ?_
        (have sl := heavyS_small h23); (have sf : f.cases.length ≤ 1000000 := by (have := (heavyF_f h26).2.2.2.1; omega)); (have s40 := (heavyS_f h23).1)
        refine AL.r (rd_move rfl rfl) ?_
        refine AL.r (rd_loadN_bx rfl ag_30 rfl rfl (Nat.le_of_ble_eq_true rfl) rfl) ?_
        refine AL.op rfl (AOpB.op (op_call (with_c l f sl sf) rfl (by kernel_rfl) rfl (none) ?_))
        rintro r rfl
        refine AL.n ?_
        refine AL.r (rd_move rfl rfl) ?_
        refine AL.r (rd_extract rfl rfl rfl) ?_
        refine AL.r (rd_extract rfl rfl rfl) ?_
        refine AL.r (rd_assign rfl rfl) ?_
        refine AL.r (rd_assign rfl rfl) ?_
        refine AL.nil ?_
        change AW _ _ _ _ _
        refine AW.seq ?_
        refine AW.region ?_
        refine AL.r (rd_move rfl rfl) ?_
        refine AL.r (rd_loadN_bx rfl ag_30 rfl rfl (Nat.le_of_ble_eq_true rfl) rfl) ?_
        refine AL.op rfl (AOpB.op (op_call (rwith14 l f sl sf) rfl (by kernel_rfl) rfl (none) ?_))
        rintro r rfl
        refine AL.n ?_
        refine AL.r (rd_move rfl rfl) ?_
        refine AL.r (rd_extract rfl rfl rfl) ?_
        refine AL.r (rd_extract rfl rfl rfl) ?_
        refine AL.r (rd_assign rfl rfl) ?_
        refine AL.r (rd_assign rfl rfl) ?_
        refine AL.nil ?_
        change AW _ _ _ _ _
        refine AW.seq ?_
        refine AW.region ?_
        refine AL.r (rd_move rfl rfl) ?_
        refine AL.r (rd_loadN_bx rfl ag_27 rfl rfl (Nat.le_of_ble_eq_true rfl) rfl) ?_
        refine AL.op rfl (AOpB.op (op_call (without_c l r sl) rfl (by kernel_rfl) rfl (none) ?_))
        rintro r rfl
        refine AL.n ?_
        refine AL.r (rd_move rfl rfl) ?_
        refine AL.r (rd_extract rfl rfl rfl) ?_
        refine AL.r (rd_extract rfl rfl rfl) ?_
        refine AL.r (rd_assign rfl rfl) ?_
        refine AL.r (rd_assign rfl rfl) ?_
        refine AL.nil ?_
        change AW _ _ _ _ _
        refine AW.seq ?_
        refine AW.region ?_
        refine AL.r (rd_move rfl rfl) ?_
        refine AL.r (rd_loadN_bx rfl ag_27 rfl rfl (Nat.le_of_ble_eq_true rfl) rfl) ?_
        refine AL.op rfl (AOpB.op (op_call (rwithout14 l r sl) rfl (by kernel_rfl) rfl (none) ?_))
        rintro r rfl
        refine AL.n ?_
        refine AL.r (rd_move rfl rfl) ?_
        refine AL.r (rd_extract rfl rfl rfl) ?_
        refine AL.r (rd_extract rfl rfl rfl) ?_
        refine AL.r (rd_assign rfl rfl) ?_
        refine AL.r (rd_assign rfl rfl) ?_
        refine AL.nil ?_
        change AW _ _ _ _ _
        refine AW.seq ?_
        refine AW.seq ?_
        refine AW.region ?_
        refine AL.r (rd_move rfl rfl) ?_
        refine AL.r (rd_move rfl rfl) ?_
        refine AL.r (rd_bin rfl rfl rfl (fun _ => rfl)) ?_
        refine AL.r (rd_move rfl rfl) ?_
        refine AL.fork (d := 54) rfl (fun h54 => ?_) (fun h54 => ?_)
        · (try simp only [decide_eq_true_eq, decide_eq_false_iff_not, beq_iff_eq, beq_eq_false_iff_ne, bne_iff_ne, bne_eq_false_iff_eq, Bool.not_eq_true', Bool.not_eq_false', ne_eq, Bool.not_eq_eq_eq_not, Bool.not_true, Bool.not_false, gt_iff_lt, ge_iff_le, Bool.not_not] at h54)
          exact absurd trivial h54
        · (try simp only [decide_eq_true_eq, decide_eq_false_iff_not, beq_iff_eq, beq_eq_false_iff_ne, bne_iff_ne, bne_eq_false_iff_eq, Bool.not_eq_true', Bool.not_eq_false', ne_eq, Bool.not_eq_eq_eq_not, Bool.not_true, Bool.not_false, gt_iff_lt, ge_iff_le, Bool.not_not] at h54)
          refine AL.n ?_
          refine AL.ro (rd_move rfl rfl) ?_
          refine AL.ro (rd_move rfl rfl) ?_
          refine AL.ro (rd_bin rfl rfl rfl (fun _ => rfl)) ?_
          refine AL.r (rd_pick_f rfl rfl rfl) ?_
          refine AL.r (rd_move rfl rfl) ?_
          refine AL.fork (d := 59) rfl (fun h59 => ?_) (fun h59 => ?_)
          · (try simp only [decide_eq_true_eq, decide_eq_false_iff_not, beq_iff_eq, beq_eq_false_iff_ne, bne_iff_ne, bne_eq_false_iff_eq, Bool.not_eq_true', Bool.not_eq_false', ne_eq, Bool.not_eq_eq_eq_not, Bool.not_true, Bool.not_false, gt_iff_lt, ge_iff_le, Bool.not_not] at h59)
            exact absurd trivial h59
          · (try simp only [decide_eq_true_eq, decide_eq_false_iff_not, beq_iff_eq, beq_eq_false_iff_ne, bne_iff_ne, bne_eq_false_iff_eq, Bool.not_eq_true', Bool.not_eq_false', ne_eq, Bool.not_eq_eq_eq_not, Bool.not_true, Bool.not_false, gt_iff_lt, ge_iff_le, Bool.not_not] at h59)
            refine AL.n ?_
            refine AL.ro (rd_move rfl rfl) ?_
            refine AL.ro (rd_move rfl rfl) ?_
            refine AL.on rfl rfl rfl (AOpB.op (op_call (rsame14s _ _ (sl.with_ s40 sf)) rfl (by kernel_rfl) rfl (none) ?_))
            rintro r rfl
            refine AL.n ?_
            refine AL.ro (rd_un rfl rfl (fun _ => rfl)) ?_
            refine AL.r (rd_pick_f rfl rfl rfl) ?_
            refine AL.r (rd_move rfl rfl) ?_
            refine AL.fork (d := 65) rfl (fun h65 => ?_) (fun h65 => ?_)
            · (try simp only [decide_eq_true_eq, decide_eq_false_iff_not, beq_iff_eq, beq_eq_false_iff_ne, bne_iff_ne, bne_eq_false_iff_eq, Bool.not_eq_true', Bool.not_eq_false', ne_eq, Bool.not_eq_eq_eq_not, Bool.not_true, Bool.not_false, gt_iff_lt, ge_iff_le, Bool.not_not] at h65)
              exact absurd trivial h65
            · (try simp only [decide_eq_true_eq, decide_eq_false_iff_not, beq_iff_eq, beq_eq_false_iff_ne, bne_iff_ne, bne_eq_false_iff_eq, Bool.not_eq_true', Bool.not_eq_false', ne_eq, Bool.not_eq_eq_eq_not, Bool.not_true, Bool.not_false, gt_iff_lt, ge_iff_le, Bool.not_not] at h65)
              refine AL.n ?_
              refine AL.ro (rd_move rfl rfl) ?_
              refine AL.ro (rd_move rfl rfl) ?_
              refine AL.on rfl rfl rfl (AOpB.op (op_call (rsame14s _ _ sl.less) rfl (by kernel_rfl) rfl (none) ?_))
              rintro r rfl
              refine AL.n ?_
              refine AL.ro (rd_un rfl rfl (fun _ => rfl)) ?_
              refine AL.r (rd_pick_f rfl rfl rfl) ?_
              refine AL.nil ?_
              change AW _ _ _ _ _
              refine AW.cond rfl (fun h70 => ?_) (fun h70 => ?_)
              · (try simp only [decide_eq_true_eq, decide_eq_false_iff_not, beq_iff_eq, beq_eq_false_iff_ne, bne_iff_ne, bne_eq_false_iff_eq, Bool.not_eq_true', Bool.not_eq_false', ne_eq, Bool.not_eq_eq_eq_not, Bool.not_true, Bool.not_false, gt_iff_lt, ge_iff_le, Bool.not_not] at h70)
                refine AW.seq ?_
                exact absurd trivial h70
              · (try simp only [decide_eq_true_eq, decide_eq_false_iff_not, beq_iff_eq, beq_eq_false_iff_ne, bne_iff_ne, bne_eq_false_iff_eq, Bool.not_eq_true', Bool.not_eq_false', ne_eq, Bool.not_eq_eq_eq_not, Bool.not_true, Bool.not_false, gt_iff_lt, ge_iff_le, Bool.not_not] at h70)
                refine AW.skip ?_
                change AW _ _ _ _ _
                refine AW.seq ?_
                refine AW.seq ?_
                refine AW.region ?_
                refine AL.r (rd_move rfl rfl) ?_
                refine AL.r (rd_bin rfl rfl rfl (fun _ => rfl)) ?_
                refine AL.nil ?_
                change AW _ _ _ _ _
                refine AW.cond rfl (fun h72 => ?_) (fun h72 => ?_)
                · (try simp only [decide_eq_true_eq, decide_eq_false_iff_not, beq_iff_eq, beq_eq_false_iff_ne, bne_iff_ne, bne_eq_false_iff_eq, Bool.not_eq_true', Bool.not_eq_false', ne_eq, Bool.not_eq_eq_eq_not, Bool.not_true, Bool.not_false, gt_iff_lt, ge_iff_le, Bool.not_not] at h72)
                  refine AW.seq ?_
                  refine AW.region ?_
                  refine AL.r (rd_move rfl rfl) ?_
                  refine AL.r (rd_len_sl rfl el_23 rfl) ?_
                  refine AL.r (rd_bin rfl rfl rfl (fun _ => rfl)) ?_
                  refine AL.r (rd_assign rfl rfl) ?_
                  refine AL.nil ?_
                  change AW _ _ _ _ _
                  refine AW.ret ?_
                  change ResA _ _ _ _ _
                  refine res1 rfl (ResV.tmp rfl) rfl ?_
                  (rcases withS_cases l f with e | e); (rw [e.1]; rfl); (exact absurd (by rw [e]) h72)
                · (try simp only [decide_eq_true_eq, decide_eq_false_iff_not, beq_iff_eq, beq_eq_false_iff_ne, bne_iff_ne, bne_eq_false_iff_eq, Bool.not_eq_true', Bool.not_eq_false', ne_eq, Bool.not_eq_eq_eq_not, Bool.not_true, Bool.not_false, gt_iff_lt, ge_iff_le, Bool.not_not] at h72)
                  refine AW.skip ?_
                  change AW _ _ _ _ _
                  refine AW.seq ?_
                  refine AW.region ?_
                  (have hW : withS l f = (putS l f, 0) := (withS_cases l f).resolve_left (fun h => h.2 h72)); (have hsm := sl.with_ (f := f) s40 sf); obtain ⟨p1, p2, p3, p4⟩ := put_law hW h72; rw [hW] at hsm ⊢
                  refine AL.r (rd_move rfl rfl) ?_
                  refine AL.r (rd_faddr_bx rfl fo_30_0 rfl rfl ⟨_, _, rfl⟩) ?_
                  refine AL.r (rd_loadN_bx rfl ag_27 rfl rfl (Nat.le_of_ble_eq_true rfl) rfl) ?_
                  refine AL.op rfl (AOpB.op (op_call (without_c (putS l f) f.at_ hsm) rfl (by kernel_rfl) rfl (none) ?_))
                  rintro r rfl
                  refine AL.n ?_
                  rw [p3]
                  refine AL.r (rd_move rfl rfl) ?_
                  refine AL.r (rd_extract rfl rfl rfl) ?_
                  refine AL.r (rd_extract rfl rfl rfl) ?_
                  refine AL.r (rd_assign rfl rfl) ?_
                  refine AL.r (rd_assign rfl rfl) ?_
                  refine AL.nil ?_
                  change AW _ _ _ _ _
                  refine AW.seq ?_
                  refine AW.region ?_
                  refine AL.r (rd_move rfl rfl) ?_
                  refine AL.r (rd_faddr_bx rfl fo_30_0 rfl rfl ⟨_, _, rfl⟩) ?_
                  refine AL.r (rd_loadN_bx rfl ag_27 rfl rfl (Nat.le_of_ble_eq_true rfl) rfl) ?_
                  refine AL.op rfl (AOpB.op (op_call (sfind_c (putS l f) f.at_ hsm) rfl (by kernel_rfl) rfl (none) ?_))
                  rintro r rfl
                  refine AL.n ?_
                  rw [p4]
                  refine AL.r (rd_move rfl rfl) ?_
                  refine AL.r (rd_extract rfl rfl rfl) ?_
                  refine AL.r (rd_extract rfl rfl rfl) ?_
                  refine AL.op rfl (AOpB.op (op_alloc 2 rfl ze_30 rfl ?_))
                  refine AL.n ?_
                  refine AL.op rfl (op_store rfl rfl rfl rfl rfl rfl sz_30 (Nat.le_of_ble_eq_true rfl) ?_)
                  refine AL.n ?_
                  refine AL.r (rd_assign rfl rfl) ?_
                  refine AL.nil ?_
                  change AW _ _ _ _ _
                  refine AW.seq ?_
                  refine AW.region ?_
                  refine AL.r (rd_move rfl rfl) ?_
                  refine AL.op rfl (AOpB.op (op_call (sright_c (putS l f)) rfl (by kernel_rfl) rfl (none) ?_))
                  rintro r rfl
                  refine AL.n ?_
                  refine AL.r (rd_move rfl rfl) ?_
                  refine AL.fork (d := 92) rfl (fun h92 => ?_) (fun h92 => ?_)
                  · (try simp only [decide_eq_true_eq, decide_eq_false_iff_not, beq_iff_eq, beq_eq_false_iff_ne, bne_iff_ne, bne_eq_false_iff_eq, Bool.not_eq_true', Bool.not_eq_false', ne_eq, Bool.not_eq_eq_eq_not, Bool.not_true, Bool.not_false, gt_iff_lt, ge_iff_le, Bool.not_not] at h92)
                    refine AL.n ?_
                    refine AL.ro (rd_move rfl rfl) ?_
                    refine AL.ro (rd_bin rfl rfl rfl (fun _ => rfl)) ?_
                    refine AL.r (rd_pick_t rfl rfl rfl) ?_
                    refine AL.r (rd_move rfl rfl) ?_
                    refine AL.fork (d := 96) rfl (fun h96 => ?_) (fun h96 => ?_)
                    · (try simp only [decide_eq_true_eq, decide_eq_false_iff_not, beq_iff_eq, beq_eq_false_iff_ne, bne_iff_ne, bne_eq_false_iff_eq, Bool.not_eq_true', Bool.not_eq_false', ne_eq, Bool.not_eq_eq_eq_not, Bool.not_true, Bool.not_false, gt_iff_lt, ge_iff_le, Bool.not_not] at h96)
                      refine AL.n ?_
                      refine AL.ro (rd_move rfl rfl) ?_
                      refine AL.ro (rd_move rfl rfl) ?_
                      refine AL.on rfl rfl rfl (AOpB.op (op_call (rsame14s l l sl) rfl (by kernel_rfl) rfl (none) ?_))
                      rintro r rfl
                      refine AL.n ?_
                      refine AL.r (rd_pick_t rfl rfl rfl) ?_
                      refine AL.r (rd_move rfl rfl) ?_
                      refine AL.fork (d := 101) rfl (fun h101 => ?_) (fun h101 => ?_)
                      · (try simp only [decide_eq_true_eq, decide_eq_false_iff_not, beq_iff_eq, beq_eq_false_iff_ne, bne_iff_ne, bne_eq_false_iff_eq, Bool.not_eq_true', Bool.not_eq_false', ne_eq, Bool.not_eq_eq_eq_not, Bool.not_true, Bool.not_false, gt_iff_lt, ge_iff_le, Bool.not_not] at h101)
                        refine AL.n ?_
                        refine AL.ro (rd_move rfl rfl) ?_
                        refine AL.ro (rd_bin rfl rfl rfl (fun _ => rfl)) ?_
                        refine AL.r (rd_pick_t rfl rfl rfl) ?_
                        refine AL.r (rd_move rfl rfl) ?_
                        refine AL.fork (d := 105) rfl (fun h105 => ?_) (fun h105 => ?_)
                        · (try simp only [decide_eq_true_eq, decide_eq_false_iff_not, beq_iff_eq, beq_eq_false_iff_ne, bne_iff_ne, bne_eq_false_iff_eq, Bool.not_eq_true', Bool.not_eq_false', ne_eq, Bool.not_eq_eq_eq_not, Bool.not_true, Bool.not_false, gt_iff_lt, ge_iff_le, Bool.not_not] at h105)
                          refine AL.n ?_
                          refine AL.ro (rd_loadN_bx rfl ag_30 rfl rfl (Nat.le_of_ble_eq_true rfl) rfl) ?_
                          refine AL.ro (rd_loadN_bx rfl ag_30 rfl rfl (Nat.le_of_ble_eq_true rfl) rfl) ?_
                          refine AL.on rfl rfl rfl (AOpB.op (op_call (rsame_c f f (by omega)) rfl (by kernel_rfl) rfl (none) ?_))
                          rintro r rfl
                          refine AL.n ?_
                          refine AL.r (rd_pick_t rfl rfl rfl) ?_
                          refine AL.r (rd_assign rfl rfl) ?_
                          refine AL.nil ?_
                          change AW _ _ _ _ _
                          refine AW.ret ?_
                          change ResA _ _ _ _ _
                          refine res1 rfl (ResV.tmp rfl) rfl ?_
                          first | rfl | simp
                        · (try simp only [decide_eq_true_eq, decide_eq_false_iff_not, beq_iff_eq, beq_eq_false_iff_ne, bne_iff_ne, bne_eq_false_iff_eq, Bool.not_eq_true', Bool.not_eq_false', ne_eq, Bool.not_eq_eq_eq_not, Bool.not_true, Bool.not_false, gt_iff_lt, ge_iff_le, Bool.not_not] at h105)
                          exact absurd trivial h105
                      · (try simp only [decide_eq_true_eq, decide_eq_false_iff_not, beq_iff_eq, beq_eq_false_iff_ne, bne_iff_ne, bne_eq_false_iff_eq, Bool.not_eq_true', Bool.not_eq_false', ne_eq, Bool.not_eq_eq_eq_not, Bool.not_true, Bool.not_false, gt_iff_lt, ge_iff_le, Bool.not_not] at h101)
                        exact absurd trivial h101
                    · (try simp only [decide_eq_true_eq, decide_eq_false_iff_not, beq_iff_eq, beq_eq_false_iff_ne, bne_iff_ne, bne_eq_false_iff_eq, Bool.not_eq_true', Bool.not_eq_false', ne_eq, Bool.not_eq_eq_eq_not, Bool.not_true, Bool.not_false, gt_iff_lt, ge_iff_le, Bool.not_not] at h96)
                      exact absurd trivial h96
                  · (try simp only [decide_eq_true_eq, decide_eq_false_iff_not, beq_iff_eq, beq_eq_false_iff_ne, bne_iff_ne, bne_eq_false_iff_eq, Bool.not_eq_true', Bool.not_eq_false', ne_eq, Bool.not_eq_eq_eq_not, Bool.not_true, Bool.not_false, gt_iff_lt, ge_iff_le, Bool.not_not] at h92)
                    exact absurd (p2.symm.trans h92) (by decide)
theorem walk_SchemaTurns (w : World) (v0 : Value) (l0 : List FldD) (rp0 : RepS AnyB w v0 (.sl (l0.map FldD.cs))) (v1 : Value) (f1 : FldD) (rp1 : RepS AnyB w v1 f1.av) (v2 : Value) (r2 : RefD) (rp2 : RepS AnyB w v2 r2.av) :
    Calls Try.prog 6 #[v0, v1, v2] w fun e w' => e = .returned (.bool true) ∧ Below w.heap.size w w' :=
  (turns_c l0 f1 r2).law (vs := [v0, v1, v2]) rfl (rep_cons rp0 (rep_cons rp1 (rep_cons rp2 rep_nil)))
end Go.Proofs.Ytfnpgaiaebkkmaa
