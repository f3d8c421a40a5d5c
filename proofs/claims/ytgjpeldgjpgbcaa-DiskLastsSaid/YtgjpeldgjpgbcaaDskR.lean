/- The law DiskLasts, walked over abstract states. -/
import Derived.Test.YtgjpeldgjpgbcaaDskQ
namespace Go.Proofs.Ytgjpeldgjpgbcaa
set_option linter.unusedSimpArgs false
set_option linter.unusedVariables false
set_option maxRecDepth 100000
open Go.RowKit

theorem calm_sync_c {k : Nat} {d : DiskD} (h : Calm k d) (hk : k ≤ 1000000) (G : Nat) : ACo Try.prog 20 [.bx 0 G 0] [⟨G, .obj (DiskP d)⟩] (fun y os' => y = .sc (.int .i64 0) ∧ os' = [⟨G, .obj (DiskP (syncD d))⟩]) := by
  have := ok_sync h.ok hk G
  rwa [calm_syncR h] at this
theorem pre_take {a b : List UInt8} (h : a <+: b) : b.take a.length = a ∧ a.length ≤ b.length := ⟨(List.prefix_iff_eq_take.1 h).symm, h.length_le⟩
set_option maxHeartbeats 4000000 in
theorem lasts_c (l more : List Act9) (fuse keep : Int) (hfu : fuse < 9223372036854775808) (hke : -9223372036854775808 ≤ keep ∧ keep < 9223372036854775808) : AC Try.prog 4 [.sl (l.map Act9.cs), .sl (more.map Act9.cs), .sc (.int .i64 fuse), .sc (.int .i64 keep)] (fun r => r = .s (.sc (.bool true))) := by
  refine AC.of (t0 := [.sl (l.map Act9.cs), .sl (more.map Act9.cs), .sc (.int .i64 fuse), .sc (.int .i64 keep), AV.sc undef, AV.sc undef, AV.sc undef, AV.sc undef, AV.sc undef, AV.sc undef, AV.sc undef, AV.sc undef, AV.sc undef, AV.sc undef, AV.sc undef, AV.sc undef, AV.sc undef, AV.sc undef, AV.sc undef, AV.sc undef, AV.sc undef, AV.sc undef, AV.sc undef, AV.sc undef, AV.sc undef, AV.sc undef, AV.sc undef, AV.sc undef, AV.sc undef, AV.sc undef, AV.sc undef, AV.sc undef, AV.sc undef, AV.sc undef, AV.sc undef, AV.sc undef, AV.sc undef, AV.sc undef, AV.sc undef, AV.sc undef, AV.sc undef, AV.sc undef, AV.sc undef, AV.sc undef, AV.sc undef, AV.sc undef, AV.sc undef, AV.sc undef, AV.sc undef, AV.sc undef, AV.sc undef, AV.sc undef, AV.sc undef, AV.sc undef, AV.sc undef, AV.sc undef, AV.sc undef, AV.sc undef, AV.sc undef, AV.sc undef, AV.sc undef, AV.sc undef, AV.sc undef, AV.sc undef, AV.sc undef, AV.sc undef, AV.sc undef, AV.sc undef, AV.sc undef, AV.sc undef, AV.sc undef, AV.sc undef, AV.sc undef, AV.sc undef, AV.sc undef, AV.sc undef, AV.sc undef, AV.sc undef, AV.sc undef, AV.sc undef, AV.sc undef, AV.sc undef, AV.sc undef, AV.sc undef, AV.sc undef, AV.sc undef, AV.sc undef, AV.sc undef, AV.sc undef, AV.sc undef, AV.sc undef, AV.sc undef, AV.sc undef, AV.sc undef, AV.sc undef, AV.sc undef, AV.sc undef, AV.sc undef, AV.sc undef, AV.sc undef, AV.sc undef, AV.sc undef, AV.sc undef, AV.sc undef, AV.sc undef, AV.sc undef, AV.sc undef, AV.sc undef, AV.sc undef, AV.sc undef, AV.sc undef, AV.sc undef, AV.sc undef, AV.sc undef, AV.sc undef, AV.sc undef, AV.sc undef, AV.sc undef, AV.sc undef, AV.sc undef, AV.sc undef, AV.sc undef, AV.sc undef, AV.sc undef, AV.sc undef, AV.sc undef, AV.sc undef, AV.sc undef, AV.sc undef, AV.sc undef, AV.sc undef, AV.sc undef, AV.sc undef, AV.sc undef, AV.sc undef, AV.sc undef, AV.sc undef, AV.sc undef, AV.sc undef, AV.sc undef, AV.sc undef, AV.sc undef, AV.sc undef, AV.sc undef, AV.sc undef, AV.sc undef, AV.sc undef, AV.sc undef, AV.sc undef, AV.sc undef, AV.sc undef, AV.sc undef, AV.sc undef, AV.sc undef, AV.sc undef, AV.sc undef, AV.sc undef, AV.sc undef, AV.sc undef, AV.sc undef, AV.sc undef, AV.sc undef, AV.sc undef, AV.sc undef, AV.sc undef, AV.sc undef, AV.sc undef, AV.sc undef, AV.sc undef, AV.sc undef, AV.sc undef, AV.sc undef, AV.sc undef, AV.sc undef, AV.sc undef, AV.sc undef, AV.sc undef, AV.sc undef, AV.sc undef, AV.sc undef, AV.sc undef, AV.sc undef, AV.sc undef, AV.sc undef, AV.sc undef, AV.sc undef, AV.sc undef, AV.sc undef]) 4 Try.func4 rfl rfl ?_
  change AW _ _ _ _ [TK.mk 0 .off, TK.mk 0 .off, TK.mk 0 .off, TK.mk 0 .off]
  refine AW.seq ?_
  refine AW.region ?_
  refine AL.r (rd_assign rfl rfl) ?_
  refine AL.nil ?_
  change AW _ _ _ _ _
  refine AW.seq ?_
  refine AW.seq ?_
  refine AW.region ?_
  refine AL.op rfl (AOpB.op (op_call (awake9_c) rfl (by kernel_rfl) rfl (none) ?_))
  rintro r rfl
  refine AL.no ?_
  refine AL.r (rd_un rfl rfl (fun _ => rfl)) ?_
  refine AL.nil ?_
  change AW _ _ _ _ _
  refine AW.cond_f rfl ?_
  refine AW.skip ?_
  change AW _ _ _ _ _
  refine AW.seq ?_
  refine AW.seq ?_
  refine AW.region ?_
  refine AL.r (rd_move rfl rfl) ?_
  refine AL.op rfl (AOpB.op (op_call (long9_c l) rfl (by kernel_rfl) rfl (none) ?_))
  rintro r rfl
  refine AL.no ?_
  refine AL.r (rd_move rfl rfl) ?_
  refine AL.fork (d := 23) rfl (fun h23 => ?_) (fun h23 => ?_)
  · (try simp only [decide_eq_true_eq, decide_eq_false_iff_not, beq_iff_eq, beq_eq_false_iff_ne, bne_iff_ne, bne_eq_false_iff_eq, Bool.not_eq_true', Bool.not_eq_false', ne_eq, Bool.not_eq_eq_eq_not, Bool.not_true, Bool.not_false, gt_iff_lt, ge_iff_le, Bool.not_not] at h23)
    refine AL.n ?_
    refine AL.rf ?_
    refine AL.rf ?_
    refine AL.r (rd_pick_t rfl rfl rfl) ?_
    refine AL.nil ?_
    change AW _ _ _ _ _
    refine AW.cond_t rfl ?_
    refine AW.seq ?_
    refine AW.region ?_
    refine AL.r (rd_assign rfl rfl) ?_
    refine AL.nil ?_
    change AW _ _ _ _ _
    refine AW.ret ?_
    change ResA _ _ _ _ _
    refine res1 rfl (ResV.tmp rfl) rfl ?_
    rfl
  · (try simp only [decide_eq_true_eq, decide_eq_false_iff_not, beq_iff_eq, beq_eq_false_iff_ne, bne_iff_ne, bne_eq_false_iff_eq, Bool.not_eq_true', Bool.not_eq_false', ne_eq, Bool.not_eq_eq_eq_not, Bool.not_true, Bool.not_false, gt_iff_lt, ge_iff_le, Bool.not_not] at h23)
    refine AL.n ?_
    refine AL.ro (rd_move rfl rfl) ?_
    refine AL.on rfl rfl rfl (AOpB.op (op_call (long9_c more) rfl (by kernel_rfl) rfl (none) ?_))
    rintro r rfl
    refine AL.no ?_
    refine AL.r (rd_pick_f rfl rfl rfl) ?_
    refine AL.nil ?_
    change AW _ _ _ _ _
    refine AW.cond rfl (fun h26 => ?_) (fun h26 => ?_)
    · (try simp only [decide_eq_true_eq, decide_eq_false_iff_not, beq_iff_eq, beq_eq_false_iff_ne, bne_iff_ne, bne_eq_false_iff_eq, Bool.not_eq_true', Bool.not_eq_false', ne_eq, Bool.not_eq_eq_eq_not, Bool.not_true, Bool.not_false, gt_iff_lt, ge_iff_le, Bool.not_not] at h26)
      refine AW.seq ?_
      refine AW.region ?_
      refine AL.r (rd_assign rfl rfl) ?_
      refine AL.nil ?_
      change AW _ _ _ _ _
      refine AW.ret ?_
      change ResA _ _ _ _ _
      refine res1 rfl (ResV.tmp rfl) rfl ?_
      rfl
    · (try simp only [decide_eq_true_eq, decide_eq_false_iff_not, beq_iff_eq, beq_eq_false_iff_ne, bne_iff_ne, bne_eq_false_iff_eq, Bool.not_eq_true', Bool.not_eq_false', ne_eq, Bool.not_eq_eq_eq_not, Bool.not_true, Bool.not_false, gt_iff_lt, ge_iff_le, Bool.not_not] at h26)
      refine AW.skip ?_
      change AW _ _ _ _ _
      refine AW.seq ?_
      refine AW.region ?_
      obtain ⟨hl1, hl2⟩ := long9_use h23
      obtain ⟨hm1, hm2⟩ := long9_use h26
      refine AL.op rfl (op_callo (od_new 200000 (by omega) 0) rfl (by kernel_rfl) [0] (by decide) (by simp only [List.map_cons, List.map_nil, renT, renC_owM, renC_box, renC_own, renC_nown, renC_obj, renC_off, ren0, List.getD_cons_zero, List.getD_cons_succ]; exact ⟨rfl, trivial⟩) rfl (by simp only [cleanS, cle_owM, cle_own, cle_nown, cle_obj, cle_off, cle_box, okC, liveA, List.take_succ_cons, List.take_zero, List.all_cons, List.all_nil, List.getElem?_cons_zero, List.getElem?_cons_succ, isO_owM, isO_own, isO_nown, TC.isB, beq_self_eq_true, Bool.and_self, Bool.and_true, ok1, ok2, List.map_cons, List.map_nil]) (by simp only [cleanS, cle_owM, cle_own, cle_nown, cle_obj, cle_off, cle_box, okC, liveA, List.take_succ_cons, List.take_zero, List.all_cons, List.all_nil, List.getElem?_cons_zero, List.getElem?_cons_succ, isO_owM, isO_own, isO_nown, TC.isB, beq_self_eq_true, Bool.and_self, Bool.and_true, ok1, ok2, List.map_cons, List.map_nil]) ?_)
      rintro y os' ⟨rfl, rfl⟩
      refine AL.no ?_
      refine AL.r (rd_move rfl rfl) ?_
      refine AL.r (rd_extract rfl rfl rfl) ?_
      refine AL.r (rd_extract rfl rfl rfl) ?_
      refine AL.r (rd_assign rfl rfl) ?_
      refine AL.r (rd_assign rfl rfl) ?_
      refine AL.nil ?_
      change AW _ _ _ _ _
      refine AW.seq ?_
      refine AW.seq ?_
      refine AW.region ?_
      refine AL.r (rd_assign rfl rfl) ?_
      refine AL.nil ?_
      change AW _ _ _ _ _
      refine AW.block ?_
      refine AW.loopM (ι := Nat × DiskD) [31, 32, 33, 34, 35, 36, 37, 38, 39, 40, 41, 42, 43, 44, 45, 46, 47, 48, 49, 50, 51, 52, 53, 54, 55, 56, 57, 58, 59, 60, 61, 62, 63, 64, 65, 66, 67, 68, 69] (fun ⟨k, d⟩ => [(11, .sc (.int .i64 (k : Int)))]) [] (fun ⟨k, d⟩ => [(0, ⟨1, .obj (DiskP d)⟩)]) (fun ⟨k, d⟩ => k ≤ l.length ∧ Calm k d) (fun ⟨k, d⟩ => l.length - k) (0, newD 200000) (⟨Nat.zero_le _, calm_new⟩) (by simp only [anys, upds, offs, List.set_cons_zero, List.set_cons_succ]; repeat (first | exact Wk.nil | refine Wk.same ?_ | refine Wk.any ?_)) (by simp only [anys, upds, offs, List.set_cons_zero, List.set_cons_succ]; repeat (first | exact Sk.nil _ | refine Sk.same _ ?_ | refine Sk.scr _ (by decide) ?_)) ?_
      rintro ⟨k, d⟩ gs hJ
      refine AW.norm (by simp only [anys, upds, offs, List.set_cons_zero, List.set_cons_succ]; rfl) (by (try simp only [anys, upds, offs, List.set_cons_zero, List.set_cons_succ]); (try rfl)) ?_
      obtain ⟨hk, hc⟩ := hJ
      refine AW.seq ?_
      refine AW.seq ?_
      refine AW.region ?_
      refine AL.r (rd_move rfl rfl) ?_
      refine AL.r (rd_move rfl rfl) ?_
      refine AL.r (rd_len_sl rfl el_22 rfl) ?_
      refine AL.r (rd_bin rfl rfl rfl (fun _ => rfl)) ?_
      refine AL.nil ?_
      change AW _ _ _ _ _
      refine AW.cond rfl (fun h34 => ?_) (fun h34 => ?_)
      · (try simp only [decide_eq_true_eq, decide_eq_false_iff_not, beq_iff_eq, beq_eq_false_iff_ne, bne_iff_ne, bne_eq_false_iff_eq, Bool.not_eq_true', Bool.not_eq_false', ne_eq, Bool.not_eq_eq_eq_not, Bool.not_true, Bool.not_false, gt_iff_lt, ge_iff_le, Bool.not_not] at h34)
        refine AW.skip ?_
        change AW _ _ _ _ _
        refine AW.seq ?_
        refine AW.block ?_
        refine AW.seq ?_
        refine AW.region ?_
        have hkl : k < l.length := (by omega)
        have hbk := hl2 k hkl
        refine AL.r (rd_move rfl rfl) ?_
        refine AL.r (rd_move rfl rfl) ?_
        refine AL.r (rd_iaddr_sl rfl el_22 rfl rfl rfl (get_mapA (by omega)) rfl) ?_
        refine AL.r (rd_faddr_ep rfl fo_31_0 rfl) ?_
        refine AL.r (rd_load_ep rfl ag_3 rfl rfl) ?_
        refine AL.nil ?_
        change AW _ _ _ _ _
        refine AW.block ?_
        refine AW.seq ?_
        refine AW.region ?_
        refine AL.r (rd_bin rfl rfl rfl (fun _ => rfl)) ?_
        refine AL.r (rd_assign rfl rfl) ?_
        refine AL.nil ?_
        change AW _ _ _ _ _
        refine AW.cond rfl (fun h42 => ?_) (fun h42 => ?_)
        · (try simp only [decide_eq_true_eq, decide_eq_false_iff_not, beq_iff_eq, beq_eq_false_iff_ne, bne_iff_ne, bne_eq_false_iff_eq, Bool.not_eq_true', Bool.not_eq_false', ne_eq, Bool.not_eq_eq_eq_not, Bool.not_true, Bool.not_false, gt_iff_lt, ge_iff_le, Bool.not_not] at h42)
          refine AW.drawA (by kernel_rfl) ?_
          refine ADA.r 0 rfl (ARdP.a (rdP_move rfl rfl)) rfl ?_
          refine ADA.r 1 rfl (ARdP.a (rdP_move rfl rfl)) rfl ?_
          refine ADA.r 2 rfl (ARdP.a (rdP_move rfl rfl)) rfl ?_
          refine ADA.r 3 rfl (ARdP.a (rdP_iaddr_sl rfl el_22 rfl rfl rfl (get_mapA (by omega)) rfl)) rfl ?_
          refine ADA.r 4 rfl (ARdP.a (rdP_faddr_ep rfl fo_31_1 rfl)) rfl ?_
          refine ADA.r 5 rfl (rdA_load_ep rfl ag_3 rfl rfl) rfl ?_
          refine ADA.r 6 rfl (ARdP.a (rdP_move rfl rfl)) rfl ?_
          refine ADA.r 7 rfl (ARdP.a (rdP_move rfl rfl)) rfl ?_
          refine ADA.r 8 rfl (ARdP.a (rdP_iaddr_sl rfl el_22 rfl rfl rfl (get_mapA (by omega)) rfl)) rfl ?_
          refine ADA.r 9 rfl (ARdP.a (rdP_faddr_ep rfl fo_31_3 rfl)) rfl ?_
          refine ADA.r 10 rfl (rdA_load_ep rfl ag_29 rfl rfl) rfl ?_
          refine ADA.b ?_
          refine ADB.move 11 rfl (by kernel_rfl) rfl (op_callo (ok_append hc.ok (by omega) 1 l[k].file l[k].b (by omega)) rfl (by kernel_rfl) [0] (by decide) (by simp only [List.map_cons, List.map_nil, renT, renC_owM, renC_box, renC_own, renC_nown, renC_obj, renC_off, ren0, List.getD_cons_zero, List.getD_cons_succ]; exact ⟨rfl, trivial⟩) rfl (by simp only [cleanS, cle_owM, cle_own, cle_nown, cle_obj, cle_off, cle_box, okC, liveA, List.take_succ_cons, List.take_zero, List.all_cons, List.all_nil, List.getElem?_cons_zero, List.getElem?_cons_succ, isO_owM, isO_own, isO_nown, TC.isB, beq_self_eq_true, Bool.and_self, Bool.and_true, ok1, ok2, List.map_cons, List.map_nil]) (by simp only [cleanS, cle_owM, cle_own, cle_nown, cle_obj, cle_off, cle_box, okC, liveA, List.take_succ_cons, List.take_zero, List.all_cons, List.all_nil, List.getElem?_cons_zero, List.getElem?_cons_succ, isO_owM, isO_own, isO_nown, TC.isB, beq_self_eq_true, Bool.and_self, Bool.and_true, ok1, ok2, List.map_cons, List.map_nil]) ?_)
          rintro y os' ⟨rfl, rfl⟩
          refine ADB.n ?_
          refine ADB.done (by kernel_rfl) ?_
          change AW _ _ _ _ _
          refine AW.region ?_
          refine AL.r (rd_move rfl rfl) ?_
          refine AL.r (rd_arith_add rfl rfl rfl (by first | exact IntWalk.i64_in _ (by omega) | rfl)) ?_
          refine AL.r (rd_assign rfl rfl) ?_
          refine AL.nil ?_
          first
            | refine ⟨(k + 1, appDi d l[k].file l[k].b), ?_, ?_, ?_, ?_⟩
              · exact ⟨by omega, hc.app _ hbk⟩
              · first | omega | (simp only []; omega)
              · simp only [anys, upds, offs, List.set_cons_zero, List.set_cons_succ]; repeat (first | exact Wk.nil | refine Wk.same ?_ | refine Wk.any ?_)
              · simp only [anys, upds, offs, List.set_cons_zero, List.set_cons_succ]; repeat (first | exact Sk.nil _ | refine Sk.same _ ?_ | refine Sk.scr _ (by decide) ?_)
            | refine ⟨(k + 1, cutDi d l[k].file l[k].n), ?_, ?_, ?_, ?_⟩
              · exact ⟨by omega, hc.cut _ _⟩
              · first | omega | (simp only []; omega)
              · simp only [anys, upds, offs, List.set_cons_zero, List.set_cons_succ]; repeat (first | exact Wk.nil | refine Wk.same ?_ | refine Wk.any ?_)
              · simp only [anys, upds, offs, List.set_cons_zero, List.set_cons_succ]; repeat (first | exact Sk.nil _ | refine Sk.same _ ?_ | refine Sk.scr _ (by decide) ?_)
            | refine ⟨(k + 1, d), ?_, ?_, ?_, ?_⟩
              · exact ⟨by omega, hc.mono (by omega)⟩
              · first | omega | (simp only []; omega)
              · simp only [anys, upds, offs, List.set_cons_zero, List.set_cons_succ]; repeat (first | exact Wk.nil | refine Wk.same ?_ | refine Wk.any ?_)
              · simp only [anys, upds, offs, List.set_cons_zero, List.set_cons_succ]; repeat (first | exact Sk.nil _ | refine Sk.same _ ?_ | refine Sk.scr _ (by decide) ?_)
        · (try simp only [decide_eq_true_eq, decide_eq_false_iff_not, beq_iff_eq, beq_eq_false_iff_ne, bne_iff_ne, bne_eq_false_iff_eq, Bool.not_eq_true', Bool.not_eq_false', ne_eq, Bool.not_eq_eq_eq_not, Bool.not_true, Bool.not_false, gt_iff_lt, ge_iff_le, Bool.not_not] at h42)
          refine AW.seq ?_
          refine AW.region ?_
          refine AL.r (rd_bin rfl rfl rfl (fun _ => rfl)) ?_
          refine AL.r (rd_assign rfl rfl) ?_
          refine AL.nil ?_
          change AW _ _ _ _ _
          refine AW.cond rfl (fun h56 => ?_) (fun h56 => ?_)
          · (try simp only [decide_eq_true_eq, decide_eq_false_iff_not, beq_iff_eq, beq_eq_false_iff_ne, bne_iff_ne, bne_eq_false_iff_eq, Bool.not_eq_true', Bool.not_eq_false', ne_eq, Bool.not_eq_eq_eq_not, Bool.not_true, Bool.not_false, gt_iff_lt, ge_iff_le, Bool.not_not] at h56)
            refine AW.drawA (by kernel_rfl) ?_
            refine ADA.r 0 rfl (ARdP.a (rdP_move rfl rfl)) rfl ?_
            refine ADA.r 1 rfl (ARdP.a (rdP_move rfl rfl)) rfl ?_
            refine ADA.r 2 rfl (ARdP.a (rdP_move rfl rfl)) rfl ?_
            refine ADA.r 3 rfl (ARdP.a (rdP_iaddr_sl rfl el_22 rfl rfl rfl (get_mapA (by omega)) rfl)) rfl ?_
            refine ADA.r 4 rfl (ARdP.a (rdP_faddr_ep rfl fo_31_1 rfl)) rfl ?_
            refine ADA.r 5 rfl (rdA_load_ep rfl ag_3 rfl rfl) rfl ?_
            refine ADA.r 6 rfl (ARdP.a (rdP_move rfl rfl)) rfl ?_
            refine ADA.r 7 rfl (ARdP.a (rdP_move rfl rfl)) rfl ?_
            refine ADA.r 8 rfl (ARdP.a (rdP_iaddr_sl rfl el_22 rfl rfl rfl (get_mapA (by omega)) rfl)) rfl ?_
            refine ADA.r 9 rfl (ARdP.a (rdP_faddr_ep rfl fo_31_2 rfl)) rfl ?_
            refine ADA.r 10 rfl (rdA_load_ep rfl ag_3 rfl rfl) rfl ?_
            refine ADA.b ?_
            refine ADB.move 11 rfl (by kernel_rfl) rfl (op_callo (ok_cut hc.ok (by omega) 1 l[k].file l[k].n) rfl (by kernel_rfl) [0] (by decide) (by simp only [List.map_cons, List.map_nil, renT, renC_owM, renC_box, renC_own, renC_nown, renC_obj, renC_off, ren0, List.getD_cons_zero, List.getD_cons_succ]; exact ⟨rfl, trivial⟩) rfl (by simp only [cleanS, cle_owM, cle_own, cle_nown, cle_obj, cle_off, cle_box, okC, liveA, List.take_succ_cons, List.take_zero, List.all_cons, List.all_nil, List.getElem?_cons_zero, List.getElem?_cons_succ, isO_owM, isO_own, isO_nown, TC.isB, beq_self_eq_true, Bool.and_self, Bool.and_true, ok1, ok2, List.map_cons, List.map_nil]) (by simp only [cleanS, cle_owM, cle_own, cle_nown, cle_obj, cle_off, cle_box, okC, liveA, List.take_succ_cons, List.take_zero, List.all_cons, List.all_nil, List.getElem?_cons_zero, List.getElem?_cons_succ, isO_owM, isO_own, isO_nown, TC.isB, beq_self_eq_true, Bool.and_self, Bool.and_true, ok1, ok2, List.map_cons, List.map_nil]) ?_)
            rintro y os' ⟨rfl, rfl⟩
            refine ADB.n ?_
            refine ADB.done (by kernel_rfl) ?_
            change AW _ _ _ _ _
            refine AW.region ?_
            refine AL.r (rd_move rfl rfl) ?_
            refine AL.r (rd_arith_add rfl rfl rfl (by first | exact IntWalk.i64_in _ (by omega) | rfl)) ?_
            refine AL.r (rd_assign rfl rfl) ?_
            refine AL.nil ?_
            first
              | refine ⟨(k + 1, appDi d l[k].file l[k].b), ?_, ?_, ?_, ?_⟩
                · exact ⟨by omega, hc.app _ hbk⟩
                · first | omega | (simp only []; omega)
                · simp only [anys, upds, offs, List.set_cons_zero, List.set_cons_succ]; repeat (first | exact Wk.nil | refine Wk.same ?_ | refine Wk.any ?_)
                · simp only [anys, upds, offs, List.set_cons_zero, List.set_cons_succ]; repeat (first | exact Sk.nil _ | refine Sk.same _ ?_ | refine Sk.scr _ (by decide) ?_)
              | refine ⟨(k + 1, cutDi d l[k].file l[k].n), ?_, ?_, ?_, ?_⟩
                · exact ⟨by omega, hc.cut _ _⟩
                · first | omega | (simp only []; omega)
                · simp only [anys, upds, offs, List.set_cons_zero, List.set_cons_succ]; repeat (first | exact Wk.nil | refine Wk.same ?_ | refine Wk.any ?_)
                · simp only [anys, upds, offs, List.set_cons_zero, List.set_cons_succ]; repeat (first | exact Sk.nil _ | refine Sk.same _ ?_ | refine Sk.scr _ (by decide) ?_)
              | refine ⟨(k + 1, d), ?_, ?_, ?_, ?_⟩
                · exact ⟨by omega, hc.mono (by omega)⟩
                · first | omega | (simp only []; omega)
                · simp only [anys, upds, offs, List.set_cons_zero, List.set_cons_succ]; repeat (first | exact Wk.nil | refine Wk.same ?_ | refine Wk.any ?_)
                · simp only [anys, upds, offs, List.set_cons_zero, List.set_cons_succ]; repeat (first | exact Sk.nil _ | refine Sk.same _ ?_ | refine Sk.scr _ (by decide) ?_)
          · (try simp only [decide_eq_true_eq, decide_eq_false_iff_not, beq_iff_eq, beq_eq_false_iff_ne, bne_iff_ne, bne_eq_false_iff_eq, Bool.not_eq_true', Bool.not_eq_false', ne_eq, Bool.not_eq_eq_eq_not, Bool.not_true, Bool.not_false, gt_iff_lt, ge_iff_le, Bool.not_not] at h56)
            refine AW.skip ?_
            change AW _ _ _ _ _
            refine AW.region ?_
            refine AL.r (rd_move rfl rfl) ?_
            refine AL.r (rd_arith_add rfl rfl rfl (by first | exact IntWalk.i64_in _ (by omega) | rfl)) ?_
            refine AL.r (rd_assign rfl rfl) ?_
            refine AL.nil ?_
            first
              | refine ⟨(k + 1, appDi d l[k].file l[k].b), ?_, ?_, ?_, ?_⟩
                · exact ⟨by omega, hc.app _ hbk⟩
                · first | omega | (simp only []; omega)
                · simp only [anys, upds, offs, List.set_cons_zero, List.set_cons_succ]; repeat (first | exact Wk.nil | refine Wk.same ?_ | refine Wk.any ?_)
                · simp only [anys, upds, offs, List.set_cons_zero, List.set_cons_succ]; repeat (first | exact Sk.nil _ | refine Sk.same _ ?_ | refine Sk.scr _ (by decide) ?_)
              | refine ⟨(k + 1, cutDi d l[k].file l[k].n), ?_, ?_, ?_, ?_⟩
                · exact ⟨by omega, hc.cut _ _⟩
                · first | omega | (simp only []; omega)
                · simp only [anys, upds, offs, List.set_cons_zero, List.set_cons_succ]; repeat (first | exact Wk.nil | refine Wk.same ?_ | refine Wk.any ?_)
                · simp only [anys, upds, offs, List.set_cons_zero, List.set_cons_succ]; repeat (first | exact Sk.nil _ | refine Sk.same _ ?_ | refine Sk.scr _ (by decide) ?_)
              | refine ⟨(k + 1, d), ?_, ?_, ?_, ?_⟩
                · exact ⟨by omega, hc.mono (by omega)⟩
                · first | omega | (simp only []; omega)
                · simp only [anys, upds, offs, List.set_cons_zero, List.set_cons_succ]; repeat (first | exact Wk.nil | refine Wk.same ?_ | refine Wk.any ?_)
                · simp only [anys, upds, offs, List.set_cons_zero, List.set_cons_succ]; repeat (first | exact Sk.nil _ | refine Sk.same _ ?_ | refine Sk.scr _ (by decide) ?_)
      · (try simp only [decide_eq_true_eq, decide_eq_false_iff_not, beq_iff_eq, beq_eq_false_iff_ne, bne_iff_ne, bne_eq_false_iff_eq, Bool.not_eq_true', Bool.not_eq_false', ne_eq, Bool.not_eq_eq_eq_not, Bool.not_true, Bool.not_false, gt_iff_lt, ge_iff_le, Bool.not_not] at h34)
        refine AW.exit ?_
        change AW _ _ _ _ _
        refine AW.seq ?_
        refine AW.seq ?_
        refine AW.region ?_
        refine AL.r (rd_move rfl rfl) ?_
        refine AL.op rfl (op_callo (calm_sync_c hc (by omega) 1) rfl (by kernel_rfl) [0] (by decide) (by simp only [List.map_cons, List.map_nil, renT, renC_owM, renC_box, renC_own, renC_nown, renC_obj, renC_off, ren0, List.getD_cons_zero, List.getD_cons_succ]; exact ⟨rfl, trivial⟩) rfl (by simp only [cleanS, cle_owM, cle_own, cle_nown, cle_obj, cle_off, cle_box, okC, liveA, List.take_succ_cons, List.take_zero, List.all_cons, List.all_nil, List.getElem?_cons_zero, List.getElem?_cons_succ, isO_owM, isO_own, isO_nown, TC.isB, beq_self_eq_true, Bool.and_self, Bool.and_true, ok1, ok2, List.map_cons, List.map_nil]) (by simp only [cleanS, cle_owM, cle_own, cle_nown, cle_obj, cle_off, cle_box, okC, liveA, List.take_succ_cons, List.take_zero, List.all_cons, List.all_nil, List.getElem?_cons_zero, List.getElem?_cons_succ, isO_owM, isO_own, isO_nown, TC.isB, beq_self_eq_true, Bool.and_self, Bool.and_true, ok1, ok2, List.map_cons, List.map_nil]) ?_)
        rintro y os' ⟨rfl, rfl⟩
        refine AL.no ?_
        refine AL.r (rd_bin rfl rfl rfl (fun _ => rfl)) ?_
        refine AL.nil ?_
        change AW _ _ _ _ _
        refine AW.cond_f rfl ?_
        refine AW.skip ?_
        change AW _ _ _ _ _
        refine AW.seq ?_
        refine AW.region ?_
        obtain ⟨cs1, cs2, cs3, cs4, cs5, cs6⟩ := calm_sync hc
        refine AL.r (rd_move rfl rfl) ?_
        refine AL.op rfl (op_callo (all_c hc.ok.sync (by omega) cs6 1) rfl (by kernel_rfl) [0] (by decide) (by simp only [List.map_cons, List.map_nil, renT, renC_owM, renC_box, renC_own, renC_nown, renC_obj, renC_off, ren0, List.getD_cons_zero, List.getD_cons_succ]; exact ⟨rfl, trivial⟩) rfl (by simp only [cleanS, cle_owM, cle_own, cle_nown, cle_obj, cle_off, cle_box, okC, liveA, List.take_succ_cons, List.take_zero, List.all_cons, List.all_nil, List.getElem?_cons_zero, List.getElem?_cons_succ, isO_owM, isO_own, isO_nown, TC.isB, beq_self_eq_true, Bool.and_self, Bool.and_true, ok1, ok2, List.map_cons, List.map_nil]) (by simp only [cleanS, cle_owM, cle_own, cle_nown, cle_obj, cle_off, cle_box, okC, liveA, List.take_succ_cons, List.take_zero, List.all_cons, List.all_nil, List.getElem?_cons_zero, List.getElem?_cons_succ, isO_owM, isO_own, isO_nown, TC.isB, beq_self_eq_true, Bool.and_self, Bool.and_true, ok1, ok2, List.map_cons, List.map_nil]) ?_)
        rintro y os' ⟨rfl, rfl⟩
        refine AL.no ?_
        refine AL.op rfl (AOpB.op (op_alloc 1 rfl ze_43 rfl ?_))
        refine AL.no ?_
        refine AL.op rfl (op_store rfl rfl rfl rfl rfl rfl sz_43 (Nat.le_of_ble_eq_true rfl) ?_)
        refine AL.no ?_
        refine AL.nil ?_
        change AW _ _ _ _ _
        refine AW.seq ?_
        refine AW.region ?_
        refine AL.r (rd_move rfl rfl) ?_
        refine AL.r (rd_move rfl rfl) ?_
        refine AL.op rfl (op_callo (od_fuse (syncD d) 1 fuse) rfl (by kernel_rfl) [0] (by decide) (by simp only [List.map_cons, List.map_nil, renT, renC_owM, renC_box, renC_own, renC_nown, renC_obj, renC_off, ren0, List.getD_cons_zero, List.getD_cons_succ]; exact ⟨rfl, trivial⟩) rfl (by simp only [cleanS, cle_owM, cle_own, cle_nown, cle_obj, cle_off, cle_box, okC, liveA, List.take_succ_cons, List.take_zero, List.all_cons, List.all_nil, List.getElem?_cons_zero, List.getElem?_cons_succ, isO_owM, isO_own, isO_nown, TC.isB, beq_self_eq_true, Bool.and_self, Bool.and_true, ok1, ok2, List.map_cons, List.map_nil]) (by simp only [cleanS, cle_owM, cle_own, cle_nown, cle_obj, cle_off, cle_box, okC, liveA, List.take_succ_cons, List.take_zero, List.all_cons, List.all_nil, List.getElem?_cons_zero, List.getElem?_cons_succ, isO_owM, isO_own, isO_nown, TC.isB, beq_self_eq_true, Bool.and_self, Bool.and_true, ok1, ok2, List.map_cons, List.map_nil]) ?_)
        rintro y os' ⟨rfl, rfl⟩
        refine AL.no ?_
        refine AL.nil ?_
        change AW _ _ _ _ _
        refine AW.seq ?_
        refine AW.region ?_
        refine AL.r (rd_buildA rfl ar_43 ze_43 rfl rfl) ?_
        refine AL.op rfl (AOpB.op (op_alloc 2 rfl ze_43 rfl ?_))
        refine AL.no ?_
        refine AL.op rfl (op_store rfl rfl rfl rfl rfl rfl sz_43 (Nat.le_of_ble_eq_true rfl) ?_)
        refine AL.no ?_
        refine AL.nil ?_
        change AW _ _ _ _ _
        refine AW.seq ?_
        refine AW.seq ?_
        refine AW.region ?_
        refine AL.r (rd_assign rfl rfl) ?_
        refine AL.nil ?_
        change AW _ _ _ _ _
        refine AW.block ?_
        refine AW.loopM (ι := Nat × DiskD × Files) [79, 80, 81, 82, 83, 84, 85, 86, 87, 88, 89, 90, 91, 92, 93, 94, 95, 96, 97, 98, 99, 100, 101, 102, 103, 104, 105, 106, 107, 108, 109, 110, 111, 112, 113, 114, 115, 116, 117, 118, 119, 120, 121, 122, 123, 124, 125, 126, 127, 128, 129, 130] (fun ⟨j, e, cm⟩ => [(14, .sc (.int .i64 (j : Int)))]) [] (fun ⟨j, e, cm⟩ => [(0, ⟨1, .obj (DiskP e)⟩), (2, ⟨1, .box 43 [.sc (sv (cm 0)), .sc (sv (cm 1)), .sc (sv (cm 2)), .sc (sv (cm 3))]⟩)]) (fun ⟨j, e, cm⟩ => j ≤ more.length ∧ Since d.n cm j e) (fun ⟨j, e, cm⟩ => more.length - j) (0, fuseD (syncD d) fuse, fun _ => []) (⟨Nat.zero_le _, since_go hc (by omega) fuse hfu⟩) (by simp only [anys, upds, offs, List.set_cons_zero, List.set_cons_succ]; repeat (first | exact Wk.nil | refine Wk.same ?_ | refine Wk.any ?_)) (by simp only [anys, upds, offs, List.set_cons_zero, List.set_cons_succ]; repeat (first | exact Sk.nil _ | refine Sk.same _ ?_ | refine Sk.scr _ (by decide) ?_)) ?_
        rintro ⟨j, e, cm⟩ gs hJ
        refine AW.norm (by simp only [anys, upds, offs, List.set_cons_zero, List.set_cons_succ]; rfl) (by (try simp only [anys, upds, offs, List.set_cons_zero, List.set_cons_succ]); (try rfl)) ?_
        obtain ⟨hj, hs⟩ := hJ
        refine AW.seq ?_
        refine AW.seq ?_
        refine AW.region ?_
        refine AL.r (rd_move rfl rfl) ?_
        refine AL.r (rd_move rfl rfl) ?_
        refine AL.r (rd_len_sl rfl el_22 rfl) ?_
        refine AL.r (rd_bin rfl rfl rfl (fun _ => rfl)) ?_
        refine AL.nil ?_
        change AW _ _ _ _ _
        refine AW.cond rfl (fun h82 => ?_) (fun h82 => ?_)
        · (try simp only [decide_eq_true_eq, decide_eq_false_iff_not, beq_iff_eq, beq_eq_false_iff_ne, bne_iff_ne, bne_eq_false_iff_eq, Bool.not_eq_true', Bool.not_eq_false', ne_eq, Bool.not_eq_eq_eq_not, Bool.not_true, Bool.not_false, gt_iff_lt, ge_iff_le, Bool.not_not] at h82)
          refine AW.skip ?_
          change AW _ _ _ _ _
          refine AW.seq ?_
          refine AW.block ?_
          refine AW.seq ?_
          refine AW.region ?_
          have hjl : j < more.length := (by omega)
          have hbj := hm2 j hjl
          refine AL.r (rd_move rfl rfl) ?_
          refine AL.r (rd_move rfl rfl) ?_
          refine AL.r (rd_iaddr_sl rfl el_22 rfl rfl rfl (get_mapA (by omega)) rfl) ?_
          refine AL.r (rd_faddr_ep rfl fo_31_1 rfl) ?_
          refine AL.r (rd_load_ep rfl ag_3 rfl rfl) ?_
          refine AL.r (rd_bin rfl rfl rfl (fun _ => rfl)) ?_
          refine AL.r (rd_move rfl rfl) ?_
          refine AL.fork (d := 91) rfl (fun h91 => ?_) (fun h91 => ?_)
          · (try simp only [decide_eq_true_eq, decide_eq_false_iff_not, beq_iff_eq, beq_eq_false_iff_ne, bne_iff_ne, bne_eq_false_iff_eq, Bool.not_eq_true', Bool.not_eq_false', ne_eq, Bool.not_eq_eq_eq_not, Bool.not_true, Bool.not_false, gt_iff_lt, ge_iff_le, Bool.not_not] at h91)
            refine AL.n ?_
            refine AL.ro (rd_move rfl rfl) ?_
            refine AL.ro (rd_move rfl rfl) ?_
            refine AL.ro (rd_iaddr_sl rfl el_22 rfl rfl rfl (get_mapA (by omega)) rfl) ?_
            refine AL.ro (rd_faddr_ep rfl fo_31_1 rfl) ?_
            refine AL.ro (rd_load_ep rfl ag_3 rfl rfl) ?_
            refine AL.ro (rd_bin rfl rfl rfl (fun _ => rfl)) ?_
            refine AL.r (rd_pick_t rfl rfl rfl) ?_
            refine AL.nil ?_
            change AW _ _ _ _ _
            refine AW.cond rfl (fun h98 => ?_) (fun h98 => ?_)
            · (try simp only [decide_eq_true_eq, decide_eq_false_iff_not, beq_iff_eq, beq_eq_false_iff_ne, bne_iff_ne, bne_eq_false_iff_eq, Bool.not_eq_true', Bool.not_eq_false', ne_eq, Bool.not_eq_eq_eq_not, Bool.not_true, Bool.not_false, gt_iff_lt, ge_iff_le, Bool.not_not] at h98)
              refine AW.seq ?_
              refine AW.drawA (by kernel_rfl) ?_
              refine ADA.r 0 rfl (ARdP.a (rdP_move rfl rfl)) rfl ?_
              refine ADA.r 1 rfl (ARdP.a (rdP_move rfl rfl)) rfl ?_
              refine ADA.r 2 rfl (ARdP.a (rdP_move rfl rfl)) rfl ?_
              refine ADA.r 3 rfl (ARdP.a (rdP_iaddr_sl rfl el_22 rfl rfl rfl (get_mapA (by omega)) rfl)) rfl ?_
              refine ADA.r 4 rfl (ARdP.a (rdP_faddr_ep rfl fo_31_1 rfl)) rfl ?_
              refine ADA.r 5 rfl (rdA_load_ep rfl ag_3 rfl rfl) rfl ?_
              refine ADA.r 6 rfl (ARdP.a (rdP_move rfl rfl)) rfl ?_
              refine ADA.r 7 rfl (ARdP.a (rdP_move rfl rfl)) rfl ?_
              refine ADA.r 8 rfl (ARdP.a (rdP_iaddr_sl rfl el_22 rfl rfl rfl (get_mapA (by omega)) rfl)) rfl ?_
              refine ADA.r 9 rfl (ARdP.a (rdP_faddr_ep rfl fo_31_3 rfl)) rfl ?_
              refine ADA.r 10 rfl (rdA_load_ep rfl ag_29 rfl rfl) rfl ?_
              refine ADA.b ?_
              refine ADB.move 11 rfl (by kernel_rfl) rfl (op_callo (ok_append hs.ok (by omega) 1 more[j].file more[j].b (by omega)) rfl (by kernel_rfl) [0] (by decide) (by simp only [List.map_cons, List.map_nil, renT, renC_owM, renC_box, renC_own, renC_nown, renC_obj, renC_off, ren0, List.getD_cons_zero, List.getD_cons_succ]; exact ⟨rfl, trivial⟩) rfl (by simp only [cleanS, cle_owM, cle_own, cle_nown, cle_obj, cle_off, cle_box, okC, liveA, List.take_succ_cons, List.take_zero, List.all_cons, List.all_nil, List.getElem?_cons_zero, List.getElem?_cons_succ, isO_owM, isO_own, isO_nown, TC.isB, beq_self_eq_true, Bool.and_self, Bool.and_true, ok1, ok2, List.map_cons, List.map_nil]) (by simp only [cleanS, cle_owM, cle_own, cle_nown, cle_obj, cle_off, cle_box, okC, liveA, List.take_succ_cons, List.take_zero, List.all_cons, List.all_nil, List.getElem?_cons_zero, List.getElem?_cons_succ, isO_owM, isO_own, isO_nown, TC.isB, beq_self_eq_true, Bool.and_self, Bool.and_true, ok1, ok2, List.map_cons, List.map_nil]) ?_)
              rintro y os' ⟨rfl, rfl⟩
              refine ADB.n ?_
              refine ADB.done (by kernel_rfl) ?_
              change AW _ _ _ _ _
              rcases fourI (f := more[j].file) ⟨by omega, by omega⟩ with hF | hF | hF | hF
              · skip
                apply AW.drawS (by kernel_rfl)
                · skip
                  refine ADA.r 0 rfl (ARdP.a (rdP_move rfl rfl)) rfl ?_
                  refine ADA.r 1 rfl (ARdP.a (rdP_move rfl rfl)) rfl ?_
                  refine ADA.r 2 rfl (ARdP.a (rdP_iaddr_sl rfl el_22 rfl rfl rfl (get_mapA (by omega)) rfl)) rfl ?_
                  refine ADA.r 3 rfl (ARdP.a (rdP_faddr_ep rfl fo_31_1 rfl)) rfl ?_
                  refine ADA.r 4 rfl (rdA_load_ep rfl ag_3 rfl rfl) rfl ?_
                  refine ADA.r 5 rfl (ARdP.a (rdP_move rfl rfl)) rfl ?_
                  refine ADA.r 6 rfl (ARdP.a (rdP_move rfl rfl)) rfl ?_
                  refine ADA.r 7 rfl (ARdP.a (rdP_iaddr_sl rfl el_22 rfl rfl rfl (get_mapA (by omega)) rfl)) rfl ?_
                  refine ADA.r 8 rfl (ARdP.a (rdP_faddr_ep rfl fo_31_1 rfl)) rfl ?_
                  refine ADA.r 9 rfl (rdA_load_ep rfl ag_3 rfl rfl) rfl ?_
                  refine ADA.r 10 rfl (ARdP.a (rdP_iaddr_bx (i := 0) rfl ar_43 rfl rfl rfl (by first | rfl | omega) (by decide))) rfl ?_
                  refine ADA.r 12 rfl (ARdP.a (rdP_move rfl rfl)) rfl ?_
                  refine ADA.r 13 rfl (ARdP.a (rdP_move rfl rfl)) rfl ?_
                  refine ADA.r 14 rfl (ARdP.a (rdP_iaddr_sl rfl el_22 rfl rfl rfl (get_mapA (by omega)) rfl)) rfl ?_
                  refine ADA.r 15 rfl (ARdP.a (rdP_faddr_ep rfl fo_31_3 rfl)) rfl ?_
                  refine ADA.r 16 rfl (rdA_load_ep rfl ag_29 rfl rfl) rfl ?_
                  refine ADA.b ?_
                  refine ADB.all (is := [11, 17]) (by kernel_rfl) (by simp) ?_
                  intro i hi
                  simp only [List.mem_cons, List.not_mem_nil, or_false] at hi
                  rcases hi with rfl | rfl
                  · skip
                    refine ⟨_, rfl, rfl, AOpB.op (ARd.opB (rd_load_bx rfl ag_9 rfl rfl rfl) ?_)⟩
                    refine ADB.n ?_
                    refine ADB.move 17 rfl (by kernel_rfl) rfl (AOpB.op (ARd.opB (rd_b2s rfl (by kernel_rfl) (src_sl rfl (by first | exact csS_one | exact byA_one | (intro cs hcs; obtain rfl := List.mem_singleton.1 hcs; rfl) | (intro cs hcs; obtain ⟨_, _, rfl⟩ := List.mem_map.1 hcs; rfl) | simp))) ?_))
                    refine ADB.n ?_
                    refine ADB.r 18 rfl (rdP_scat rfl rfl rfl (by have := hs.cl 0; omega)) rfl ?_
                    refine ADB.r 19 rfl (rdP_iaddr_bx (i := 0) rfl ar_43 rfl rfl rfl (by first | rfl | omega) (by decide)) rfl ?_
                    refine ADB.move 20 rfl (by kernel_rfl) rfl (op_store rfl rfl rfl rfl rfl rfl sz_9 (Nat.le_of_ble_eq_true rfl) ?_)
                    refine ADB.n ?_
                    refine ADB.done (by kernel_rfl) ?_
                    exact ⟨rfl, rfl⟩
                  · skip
                    refine ⟨_, rfl, rfl, AOpB.op (ARd.opB (rd_b2s rfl (by kernel_rfl) (src_sl rfl (by first | exact csS_one | exact byA_one | (intro cs hcs; obtain rfl := List.mem_singleton.1 hcs; rfl) | (intro cs hcs; obtain ⟨_, _, rfl⟩ := List.mem_map.1 hcs; rfl) | simp))) ?_)⟩
                    refine ADB.n ?_
                    refine ADB.move 11 rfl (by kernel_rfl) rfl (AOpB.op (ARd.opB (rd_load_bx rfl ag_9 rfl rfl rfl) ?_))
                    refine ADB.n ?_
                    refine ADB.r 18 rfl (rdP_scat rfl rfl rfl (by have := hs.cl 0; omega)) rfl ?_
                    refine ADB.r 19 rfl (rdP_iaddr_bx (i := 0) rfl ar_43 rfl rfl rfl (by first | rfl | omega) (by decide)) rfl ?_
                    refine ADB.move 20 rfl (by kernel_rfl) rfl (op_store rfl rfl rfl rfl rfl rfl sz_9 (Nat.le_of_ble_eq_true rfl) ?_)
                    refine ADB.n ?_
                    refine ADB.done (by kernel_rfl) ?_
                    exact ⟨rfl, rfl⟩
                skip
                change AW _ _ _ _ _
                refine AW.region ?_
                refine AL.r (rd_move rfl rfl) ?_
                refine AL.r (rd_arith_add rfl rfl rfl (by first | exact IntWalk.i64_in _ (by omega) | rfl)) ?_
                refine AL.r (rd_assign rfl rfl) ?_
                refine AL.nil ?_
                first
                  | refine ⟨(j + 1, appDi e more[j].file more[j].b, upd cm more[j].file.toNat (cm more[j].file.toNat ++ more[j].b)), ?_, ?_, ?_, ?_⟩
                    · refine ⟨by omega, ?_⟩; have hh := hs.app (by omega) (f := more[j].file.toNat) (by omega) hbj; rwa [Int.toNat_of_nonneg (by omega)] at hh
                    · first | omega | (simp only []; omega)
                    · simp only [anys, upds, offs, List.set_cons_zero, List.set_cons_succ]; repeat (first | exact Wk.nil | refine Wk.same ?_ | refine Wk.any ?_)
                    · simp only [anys, upds, offs, List.set_cons_zero, List.set_cons_succ]; repeat (first | exact Sk.nil _ | refine Sk.same _ ?_ | refine Sk.scr _ (by decide) ?_ | refine Sk.eq _ (by simp [upd, hF]) ?_)
                  | refine ⟨(j + 1, e, cm), ?_, ?_, ?_, ?_⟩
                    · exact ⟨by omega, hs.skip⟩
                    · first | omega | (simp only []; omega)
                    · simp only [anys, upds, offs, List.set_cons_zero, List.set_cons_succ]; repeat (first | exact Wk.nil | refine Wk.same ?_ | refine Wk.any ?_)
                    · simp only [anys, upds, offs, List.set_cons_zero, List.set_cons_succ]; repeat (first | exact Sk.nil _ | refine Sk.same _ ?_ | refine Sk.scr _ (by decide) ?_ | refine Sk.eq _ (by simp [upd, hF]) ?_)
              · skip
                apply AW.drawS (by kernel_rfl)
                · skip
                  refine ADA.r 0 rfl (ARdP.a (rdP_move rfl rfl)) rfl ?_
                  refine ADA.r 1 rfl (ARdP.a (rdP_move rfl rfl)) rfl ?_
                  refine ADA.r 2 rfl (ARdP.a (rdP_iaddr_sl rfl el_22 rfl rfl rfl (get_mapA (by omega)) rfl)) rfl ?_
                  refine ADA.r 3 rfl (ARdP.a (rdP_faddr_ep rfl fo_31_1 rfl)) rfl ?_
                  refine ADA.r 4 rfl (rdA_load_ep rfl ag_3 rfl rfl) rfl ?_
                  refine ADA.r 5 rfl (ARdP.a (rdP_move rfl rfl)) rfl ?_
                  refine ADA.r 6 rfl (ARdP.a (rdP_move rfl rfl)) rfl ?_
                  refine ADA.r 7 rfl (ARdP.a (rdP_iaddr_sl rfl el_22 rfl rfl rfl (get_mapA (by omega)) rfl)) rfl ?_
                  refine ADA.r 8 rfl (ARdP.a (rdP_faddr_ep rfl fo_31_1 rfl)) rfl ?_
                  refine ADA.r 9 rfl (rdA_load_ep rfl ag_3 rfl rfl) rfl ?_
                  refine ADA.r 10 rfl (ARdP.a (rdP_iaddr_bx (i := 1) rfl ar_43 rfl rfl rfl (by first | rfl | omega) (by decide))) rfl ?_
                  refine ADA.r 12 rfl (ARdP.a (rdP_move rfl rfl)) rfl ?_
                  refine ADA.r 13 rfl (ARdP.a (rdP_move rfl rfl)) rfl ?_
                  refine ADA.r 14 rfl (ARdP.a (rdP_iaddr_sl rfl el_22 rfl rfl rfl (get_mapA (by omega)) rfl)) rfl ?_
                  refine ADA.r 15 rfl (ARdP.a (rdP_faddr_ep rfl fo_31_3 rfl)) rfl ?_
                  refine ADA.r 16 rfl (rdA_load_ep rfl ag_29 rfl rfl) rfl ?_
                  refine ADA.b ?_
                  refine ADB.all (is := [11, 17]) (by kernel_rfl) (by simp) ?_
                  intro i hi
                  simp only [List.mem_cons, List.not_mem_nil, or_false] at hi
                  rcases hi with rfl | rfl
                  · skip
                    refine ⟨_, rfl, rfl, AOpB.op (ARd.opB (rd_load_bx rfl ag_9 rfl rfl rfl) ?_)⟩
                    refine ADB.n ?_
                    refine ADB.move 17 rfl (by kernel_rfl) rfl (AOpB.op (ARd.opB (rd_b2s rfl (by kernel_rfl) (src_sl rfl (by first | exact csS_one | exact byA_one | (intro cs hcs; obtain rfl := List.mem_singleton.1 hcs; rfl) | (intro cs hcs; obtain ⟨_, _, rfl⟩ := List.mem_map.1 hcs; rfl) | simp))) ?_))
                    refine ADB.n ?_
                    refine ADB.r 18 rfl (rdP_scat rfl rfl rfl (by have := hs.cl 1; omega)) rfl ?_
                    refine ADB.r 19 rfl (rdP_iaddr_bx (i := 1) rfl ar_43 rfl rfl rfl (by first | rfl | omega) (by decide)) rfl ?_
                    refine ADB.move 20 rfl (by kernel_rfl) rfl (op_store rfl rfl rfl rfl rfl rfl sz_9 (Nat.le_of_ble_eq_true rfl) ?_)
                    refine ADB.n ?_
                    refine ADB.done (by kernel_rfl) ?_
                    exact ⟨rfl, rfl⟩
                  · skip
                    refine ⟨_, rfl, rfl, AOpB.op (ARd.opB (rd_b2s rfl (by kernel_rfl) (src_sl rfl (by first | exact csS_one | exact byA_one | (intro cs hcs; obtain rfl := List.mem_singleton.1 hcs; rfl) | (intro cs hcs; obtain ⟨_, _, rfl⟩ := List.mem_map.1 hcs; rfl) | simp))) ?_)⟩
                    refine ADB.n ?_
                    refine ADB.move 11 rfl (by kernel_rfl) rfl (AOpB.op (ARd.opB (rd_load_bx rfl ag_9 rfl rfl rfl) ?_))
                    refine ADB.n ?_
                    refine ADB.r 18 rfl (rdP_scat rfl rfl rfl (by have := hs.cl 1; omega)) rfl ?_
                    refine ADB.r 19 rfl (rdP_iaddr_bx (i := 1) rfl ar_43 rfl rfl rfl (by first | rfl | omega) (by decide)) rfl ?_
                    refine ADB.move 20 rfl (by kernel_rfl) rfl (op_store rfl rfl rfl rfl rfl rfl sz_9 (Nat.le_of_ble_eq_true rfl) ?_)
                    refine ADB.n ?_
                    refine ADB.done (by kernel_rfl) ?_
                    exact ⟨rfl, rfl⟩
                skip
                change AW _ _ _ _ _
                refine AW.region ?_
                refine AL.r (rd_move rfl rfl) ?_
                refine AL.r (rd_arith_add rfl rfl rfl (by first | exact IntWalk.i64_in _ (by omega) | rfl)) ?_
                refine AL.r (rd_assign rfl rfl) ?_
                refine AL.nil ?_
                first
                  | refine ⟨(j + 1, appDi e more[j].file more[j].b, upd cm more[j].file.toNat (cm more[j].file.toNat ++ more[j].b)), ?_, ?_, ?_, ?_⟩
                    · refine ⟨by omega, ?_⟩; have hh := hs.app (by omega) (f := more[j].file.toNat) (by omega) hbj; rwa [Int.toNat_of_nonneg (by omega)] at hh
                    · first | omega | (simp only []; omega)
                    · simp only [anys, upds, offs, List.set_cons_zero, List.set_cons_succ]; repeat (first | exact Wk.nil | refine Wk.same ?_ | refine Wk.any ?_)
                    · simp only [anys, upds, offs, List.set_cons_zero, List.set_cons_succ]; repeat (first | exact Sk.nil _ | refine Sk.same _ ?_ | refine Sk.scr _ (by decide) ?_ | refine Sk.eq _ (by simp [upd, hF]) ?_)
                  | refine ⟨(j + 1, e, cm), ?_, ?_, ?_, ?_⟩
                    · exact ⟨by omega, hs.skip⟩
                    · first | omega | (simp only []; omega)
                    · simp only [anys, upds, offs, List.set_cons_zero, List.set_cons_succ]; repeat (first | exact Wk.nil | refine Wk.same ?_ | refine Wk.any ?_)
                    · simp only [anys, upds, offs, List.set_cons_zero, List.set_cons_succ]; repeat (first | exact Sk.nil _ | refine Sk.same _ ?_ | refine Sk.scr _ (by decide) ?_ | refine Sk.eq _ (by simp [upd, hF]) ?_)
              · skip
                apply AW.drawS (by kernel_rfl)
                · skip
                  refine ADA.r 0 rfl (ARdP.a (rdP_move rfl rfl)) rfl ?_
                  refine ADA.r 1 rfl (ARdP.a (rdP_move rfl rfl)) rfl ?_
                  refine ADA.r 2 rfl (ARdP.a (rdP_iaddr_sl rfl el_22 rfl rfl rfl (get_mapA (by omega)) rfl)) rfl ?_
                  refine ADA.r 3 rfl (ARdP.a (rdP_faddr_ep rfl fo_31_1 rfl)) rfl ?_
                  refine ADA.r 4 rfl (rdA_load_ep rfl ag_3 rfl rfl) rfl ?_
                  refine ADA.r 5 rfl (ARdP.a (rdP_move rfl rfl)) rfl ?_
                  refine ADA.r 6 rfl (ARdP.a (rdP_move rfl rfl)) rfl ?_
                  refine ADA.r 7 rfl (ARdP.a (rdP_iaddr_sl rfl el_22 rfl rfl rfl (get_mapA (by omega)) rfl)) rfl ?_
                  refine ADA.r 8 rfl (ARdP.a (rdP_faddr_ep rfl fo_31_1 rfl)) rfl ?_
                  refine ADA.r 9 rfl (rdA_load_ep rfl ag_3 rfl rfl) rfl ?_
                  refine ADA.r 10 rfl (ARdP.a (rdP_iaddr_bx (i := 2) rfl ar_43 rfl rfl rfl (by first | rfl | omega) (by decide))) rfl ?_
                  refine ADA.r 12 rfl (ARdP.a (rdP_move rfl rfl)) rfl ?_
                  refine ADA.r 13 rfl (ARdP.a (rdP_move rfl rfl)) rfl ?_
                  refine ADA.r 14 rfl (ARdP.a (rdP_iaddr_sl rfl el_22 rfl rfl rfl (get_mapA (by omega)) rfl)) rfl ?_
                  refine ADA.r 15 rfl (ARdP.a (rdP_faddr_ep rfl fo_31_3 rfl)) rfl ?_
                  refine ADA.r 16 rfl (rdA_load_ep rfl ag_29 rfl rfl) rfl ?_
                  refine ADA.b ?_
                  refine ADB.all (is := [11, 17]) (by kernel_rfl) (by simp) ?_
                  intro i hi
                  simp only [List.mem_cons, List.not_mem_nil, or_false] at hi
                  rcases hi with rfl | rfl
                  · skip
                    refine ⟨_, rfl, rfl, AOpB.op (ARd.opB (rd_load_bx rfl ag_9 rfl rfl rfl) ?_)⟩
                    refine ADB.n ?_
                    refine ADB.move 17 rfl (by kernel_rfl) rfl (AOpB.op (ARd.opB (rd_b2s rfl (by kernel_rfl) (src_sl rfl (by first | exact csS_one | exact byA_one | (intro cs hcs; obtain rfl := List.mem_singleton.1 hcs; rfl) | (intro cs hcs; obtain ⟨_, _, rfl⟩ := List.mem_map.1 hcs; rfl) | simp))) ?_))
                    refine ADB.n ?_
                    refine ADB.r 18 rfl (rdP_scat rfl rfl rfl (by have := hs.cl 2; omega)) rfl ?_
                    refine ADB.r 19 rfl (rdP_iaddr_bx (i := 2) rfl ar_43 rfl rfl rfl (by first | rfl | omega) (by decide)) rfl ?_
                    refine ADB.move 20 rfl (by kernel_rfl) rfl (op_store rfl rfl rfl rfl rfl rfl sz_9 (Nat.le_of_ble_eq_true rfl) ?_)
                    refine ADB.n ?_
                    refine ADB.done (by kernel_rfl) ?_
                    exact ⟨rfl, rfl⟩
                  · skip
                    refine ⟨_, rfl, rfl, AOpB.op (ARd.opB (rd_b2s rfl (by kernel_rfl) (src_sl rfl (by first | exact csS_one | exact byA_one | (intro cs hcs; obtain rfl := List.mem_singleton.1 hcs; rfl) | (intro cs hcs; obtain ⟨_, _, rfl⟩ := List.mem_map.1 hcs; rfl) | simp))) ?_)⟩
                    refine ADB.n ?_
                    refine ADB.move 11 rfl (by kernel_rfl) rfl (AOpB.op (ARd.opB (rd_load_bx rfl ag_9 rfl rfl rfl) ?_))
                    refine ADB.n ?_
                    refine ADB.r 18 rfl (rdP_scat rfl rfl rfl (by have := hs.cl 2; omega)) rfl ?_
                    refine ADB.r 19 rfl (rdP_iaddr_bx (i := 2) rfl ar_43 rfl rfl rfl (by first | rfl | omega) (by decide)) rfl ?_
                    refine ADB.move 20 rfl (by kernel_rfl) rfl (op_store rfl rfl rfl rfl rfl rfl sz_9 (Nat.le_of_ble_eq_true rfl) ?_)
                    refine ADB.n ?_
                    refine ADB.done (by kernel_rfl) ?_
                    exact ⟨rfl, rfl⟩
                skip
                change AW _ _ _ _ _
                refine AW.region ?_
                refine AL.r (rd_move rfl rfl) ?_
                refine AL.r (rd_arith_add rfl rfl rfl (by first | exact IntWalk.i64_in _ (by omega) | rfl)) ?_
                refine AL.r (rd_assign rfl rfl) ?_
                refine AL.nil ?_
                first
                  | refine ⟨(j + 1, appDi e more[j].file more[j].b, upd cm more[j].file.toNat (cm more[j].file.toNat ++ more[j].b)), ?_, ?_, ?_, ?_⟩
                    · refine ⟨by omega, ?_⟩; have hh := hs.app (by omega) (f := more[j].file.toNat) (by omega) hbj; rwa [Int.toNat_of_nonneg (by omega)] at hh
                    · first | omega | (simp only []; omega)
                    · simp only [anys, upds, offs, List.set_cons_zero, List.set_cons_succ]; repeat (first | exact Wk.nil | refine Wk.same ?_ | refine Wk.any ?_)
                    · simp only [anys, upds, offs, List.set_cons_zero, List.set_cons_succ]; repeat (first | exact Sk.nil _ | refine Sk.same _ ?_ | refine Sk.scr _ (by decide) ?_ | refine Sk.eq _ (by simp [upd, hF]) ?_)
                  | refine ⟨(j + 1, e, cm), ?_, ?_, ?_, ?_⟩
                    · exact ⟨by omega, hs.skip⟩
                    · first | omega | (simp only []; omega)
                    · simp only [anys, upds, offs, List.set_cons_zero, List.set_cons_succ]; repeat (first | exact Wk.nil | refine Wk.same ?_ | refine Wk.any ?_)
                    · simp only [anys, upds, offs, List.set_cons_zero, List.set_cons_succ]; repeat (first | exact Sk.nil _ | refine Sk.same _ ?_ | refine Sk.scr _ (by decide) ?_ | refine Sk.eq _ (by simp [upd, hF]) ?_)
              · skip
                apply AW.drawS (by kernel_rfl)
                · skip
                  refine ADA.r 0 rfl (ARdP.a (rdP_move rfl rfl)) rfl ?_
                  refine ADA.r 1 rfl (ARdP.a (rdP_move rfl rfl)) rfl ?_
                  refine ADA.r 2 rfl (ARdP.a (rdP_iaddr_sl rfl el_22 rfl rfl rfl (get_mapA (by omega)) rfl)) rfl ?_
                  refine ADA.r 3 rfl (ARdP.a (rdP_faddr_ep rfl fo_31_1 rfl)) rfl ?_
                  refine ADA.r 4 rfl (rdA_load_ep rfl ag_3 rfl rfl) rfl ?_
                  refine ADA.r 5 rfl (ARdP.a (rdP_move rfl rfl)) rfl ?_
                  refine ADA.r 6 rfl (ARdP.a (rdP_move rfl rfl)) rfl ?_
                  refine ADA.r 7 rfl (ARdP.a (rdP_iaddr_sl rfl el_22 rfl rfl rfl (get_mapA (by omega)) rfl)) rfl ?_
                  refine ADA.r 8 rfl (ARdP.a (rdP_faddr_ep rfl fo_31_1 rfl)) rfl ?_
                  refine ADA.r 9 rfl (rdA_load_ep rfl ag_3 rfl rfl) rfl ?_
                  refine ADA.r 10 rfl (ARdP.a (rdP_iaddr_bx (i := 3) rfl ar_43 rfl rfl rfl (by first | rfl | omega) (by decide))) rfl ?_
                  refine ADA.r 12 rfl (ARdP.a (rdP_move rfl rfl)) rfl ?_
                  refine ADA.r 13 rfl (ARdP.a (rdP_move rfl rfl)) rfl ?_
                  refine ADA.r 14 rfl (ARdP.a (rdP_iaddr_sl rfl el_22 rfl rfl rfl (get_mapA (by omega)) rfl)) rfl ?_
                  refine ADA.r 15 rfl (ARdP.a (rdP_faddr_ep rfl fo_31_3 rfl)) rfl ?_
                  refine ADA.r 16 rfl (rdA_load_ep rfl ag_29 rfl rfl) rfl ?_
                  refine ADA.b ?_
                  refine ADB.all (is := [11, 17]) (by kernel_rfl) (by simp) ?_
                  intro i hi
                  simp only [List.mem_cons, List.not_mem_nil, or_false] at hi
                  rcases hi with rfl | rfl
                  · skip
                    refine ⟨_, rfl, rfl, AOpB.op (ARd.opB (rd_load_bx rfl ag_9 rfl rfl rfl) ?_)⟩
                    refine ADB.n ?_
                    refine ADB.move 17 rfl (by kernel_rfl) rfl (AOpB.op (ARd.opB (rd_b2s rfl (by kernel_rfl) (src_sl rfl (by first | exact csS_one | exact byA_one | (intro cs hcs; obtain rfl := List.mem_singleton.1 hcs; rfl) | (intro cs hcs; obtain ⟨_, _, rfl⟩ := List.mem_map.1 hcs; rfl) | simp))) ?_))
                    refine ADB.n ?_
                    refine ADB.r 18 rfl (rdP_scat rfl rfl rfl (by have := hs.cl 3; omega)) rfl ?_
                    refine ADB.r 19 rfl (rdP_iaddr_bx (i := 3) rfl ar_43 rfl rfl rfl (by first | rfl | omega) (by decide)) rfl ?_
                    refine ADB.move 20 rfl (by kernel_rfl) rfl (op_store rfl rfl rfl rfl rfl rfl sz_9 (Nat.le_of_ble_eq_true rfl) ?_)
                    refine ADB.n ?_
                    refine ADB.done (by kernel_rfl) ?_
                    exact ⟨rfl, rfl⟩
                  · skip
                    refine ⟨_, rfl, rfl, AOpB.op (ARd.opB (rd_b2s rfl (by kernel_rfl) (src_sl rfl (by first | exact csS_one | exact byA_one | (intro cs hcs; obtain rfl := List.mem_singleton.1 hcs; rfl) | (intro cs hcs; obtain ⟨_, _, rfl⟩ := List.mem_map.1 hcs; rfl) | simp))) ?_)⟩
                    refine ADB.n ?_
                    refine ADB.move 11 rfl (by kernel_rfl) rfl (AOpB.op (ARd.opB (rd_load_bx rfl ag_9 rfl rfl rfl) ?_))
                    refine ADB.n ?_
                    refine ADB.r 18 rfl (rdP_scat rfl rfl rfl (by have := hs.cl 3; omega)) rfl ?_
                    refine ADB.r 19 rfl (rdP_iaddr_bx (i := 3) rfl ar_43 rfl rfl rfl (by first | rfl | omega) (by decide)) rfl ?_
                    refine ADB.move 20 rfl (by kernel_rfl) rfl (op_store rfl rfl rfl rfl rfl rfl sz_9 (Nat.le_of_ble_eq_true rfl) ?_)
                    refine ADB.n ?_
                    refine ADB.done (by kernel_rfl) ?_
                    exact ⟨rfl, rfl⟩
                skip
                change AW _ _ _ _ _
                refine AW.region ?_
                refine AL.r (rd_move rfl rfl) ?_
                refine AL.r (rd_arith_add rfl rfl rfl (by first | exact IntWalk.i64_in _ (by omega) | rfl)) ?_
                refine AL.r (rd_assign rfl rfl) ?_
                refine AL.nil ?_
                first
                  | refine ⟨(j + 1, appDi e more[j].file more[j].b, upd cm more[j].file.toNat (cm more[j].file.toNat ++ more[j].b)), ?_, ?_, ?_, ?_⟩
                    · refine ⟨by omega, ?_⟩; have hh := hs.app (by omega) (f := more[j].file.toNat) (by omega) hbj; rwa [Int.toNat_of_nonneg (by omega)] at hh
                    · first | omega | (simp only []; omega)
                    · simp only [anys, upds, offs, List.set_cons_zero, List.set_cons_succ]; repeat (first | exact Wk.nil | refine Wk.same ?_ | refine Wk.any ?_)
                    · simp only [anys, upds, offs, List.set_cons_zero, List.set_cons_succ]; repeat (first | exact Sk.nil _ | refine Sk.same _ ?_ | refine Sk.scr _ (by decide) ?_ | refine Sk.eq _ (by simp [upd, hF]) ?_)
                  | refine ⟨(j + 1, e, cm), ?_, ?_, ?_, ?_⟩
                    · exact ⟨by omega, hs.skip⟩
                    · first | omega | (simp only []; omega)
                    · simp only [anys, upds, offs, List.set_cons_zero, List.set_cons_succ]; repeat (first | exact Wk.nil | refine Wk.same ?_ | refine Wk.any ?_)
                    · simp only [anys, upds, offs, List.set_cons_zero, List.set_cons_succ]; repeat (first | exact Sk.nil _ | refine Sk.same _ ?_ | refine Sk.scr _ (by decide) ?_ | refine Sk.eq _ (by simp [upd, hF]) ?_)
            · (try simp only [decide_eq_true_eq, decide_eq_false_iff_not, beq_iff_eq, beq_eq_false_iff_ne, bne_iff_ne, bne_eq_false_iff_eq, Bool.not_eq_true', Bool.not_eq_false', ne_eq, Bool.not_eq_eq_eq_not, Bool.not_true, Bool.not_false, gt_iff_lt, ge_iff_le, Bool.not_not] at h98)
              refine AW.skip ?_
              change AW _ _ _ _ _
              refine AW.region ?_
              refine AL.r (rd_move rfl rfl) ?_
              refine AL.r (rd_arith_add rfl rfl rfl (by first | exact IntWalk.i64_in _ (by omega) | rfl)) ?_
              refine AL.r (rd_assign rfl rfl) ?_
              refine AL.nil ?_
              first
                | refine ⟨(j + 1, appDi e more[j].file more[j].b, upd cm more[j].file.toNat (cm more[j].file.toNat ++ more[j].b)), ?_, ?_, ?_, ?_⟩
                  · refine ⟨by omega, ?_⟩; have hh := hs.app (by omega) (f := more[j].file.toNat) (by omega) hbj; rwa [Int.toNat_of_nonneg (by omega)] at hh
                  · first | omega | (simp only []; omega)
                  · simp only [anys, upds, offs, List.set_cons_zero, List.set_cons_succ]; repeat (first | exact Wk.nil | refine Wk.same ?_ | refine Wk.any ?_)
                  · simp only [anys, upds, offs, List.set_cons_zero, List.set_cons_succ]; repeat (first | exact Sk.nil _ | refine Sk.same _ ?_ | refine Sk.scr _ (by decide) ?_ | refine Sk.eq _ (by simp [upd, hF]) ?_)
                | refine ⟨(j + 1, e, cm), ?_, ?_, ?_, ?_⟩
                  · exact ⟨by omega, hs.skip⟩
                  · first | omega | (simp only []; omega)
                  · simp only [anys, upds, offs, List.set_cons_zero, List.set_cons_succ]; repeat (first | exact Wk.nil | refine Wk.same ?_ | refine Wk.any ?_)
                  · simp only [anys, upds, offs, List.set_cons_zero, List.set_cons_succ]; repeat (first | exact Sk.nil _ | refine Sk.same _ ?_ | refine Sk.scr _ (by decide) ?_ | refine Sk.eq _ (by simp [upd, hF]) ?_)
          · (try simp only [decide_eq_true_eq, decide_eq_false_iff_not, beq_iff_eq, beq_eq_false_iff_ne, bne_iff_ne, bne_eq_false_iff_eq, Bool.not_eq_true', Bool.not_eq_false', ne_eq, Bool.not_eq_eq_eq_not, Bool.not_true, Bool.not_false, gt_iff_lt, ge_iff_le, Bool.not_not] at h91)
            refine AL.n ?_
            refine AL.rf ?_
            refine AL.rf ?_
            refine AL.rf ?_
            refine AL.rf ?_
            refine AL.rf ?_
            refine AL.rf ?_
            refine AL.r (rd_pick_f rfl rfl rfl) ?_
            refine AL.nil ?_
            change AW _ _ _ _ _
            refine AW.cond_f rfl ?_
            refine AW.skip ?_
            change AW _ _ _ _ _
            refine AW.region ?_
            refine AL.r (rd_move rfl rfl) ?_
            refine AL.r (rd_arith_add rfl rfl rfl (by first | exact IntWalk.i64_in _ (by omega) | rfl)) ?_
            refine AL.r (rd_assign rfl rfl) ?_
            refine AL.nil ?_
            first
              | refine ⟨(j + 1, appDi e more[j].file more[j].b, upd cm more[j].file.toNat (cm more[j].file.toNat ++ more[j].b)), ?_, ?_, ?_, ?_⟩
                · refine ⟨by omega, ?_⟩; have hh := hs.app (by omega) (f := more[j].file.toNat) (by omega) hbj; rwa [Int.toNat_of_nonneg (by omega)] at hh
                · first | omega | (simp only []; omega)
                · simp only [anys, upds, offs, List.set_cons_zero, List.set_cons_succ]; repeat (first | exact Wk.nil | refine Wk.same ?_ | refine Wk.any ?_)
                · simp only [anys, upds, offs, List.set_cons_zero, List.set_cons_succ]; repeat (first | exact Sk.nil _ | refine Sk.same _ ?_ | refine Sk.scr _ (by decide) ?_ | refine Sk.eq _ (by simp [upd, hF]) ?_)
              | refine ⟨(j + 1, e, cm), ?_, ?_, ?_, ?_⟩
                · exact ⟨by omega, hs.skip⟩
                · first | omega | (simp only []; omega)
                · simp only [anys, upds, offs, List.set_cons_zero, List.set_cons_succ]; repeat (first | exact Wk.nil | refine Wk.same ?_ | refine Wk.any ?_)
                · simp only [anys, upds, offs, List.set_cons_zero, List.set_cons_succ]; repeat (first | exact Sk.nil _ | refine Sk.same _ ?_ | refine Sk.scr _ (by decide) ?_ | refine Sk.eq _ (by simp [upd, hF]) ?_)
        · (try simp only [decide_eq_true_eq, decide_eq_false_iff_not, beq_iff_eq, beq_eq_false_iff_ne, bne_iff_ne, bne_eq_false_iff_eq, Bool.not_eq_true', Bool.not_eq_false', ne_eq, Bool.not_eq_eq_eq_not, Bool.not_true, Bool.not_false, gt_iff_lt, ge_iff_le, Bool.not_not] at h82)
          refine AW.exit ?_
          change AW _ _ _ _ _
          refine AW.seq ?_
          refine AW.region ?_
          refine AL.r (rd_move rfl rfl) ?_
          refine AL.r (rd_move rfl rfl) ?_
          refine AL.op rfl (op_callo (ok_crash hs.ok (by omega) 1 keep hke) rfl (by kernel_rfl) [0] (by decide) (by simp only [List.map_cons, List.map_nil, renT, renC_owM, renC_box, renC_own, renC_nown, renC_obj, renC_off, ren0, List.getD_cons_zero, List.getD_cons_succ]; exact ⟨rfl, trivial⟩) rfl (by simp only [cleanS, cle_owM, cle_own, cle_nown, cle_obj, cle_off, cle_box, okC, liveA, List.take_succ_cons, List.take_zero, List.all_cons, List.all_nil, List.getElem?_cons_zero, List.getElem?_cons_succ, isO_owM, isO_own, isO_nown, TC.isB, beq_self_eq_true, Bool.and_self, Bool.and_true, ok1, ok2, List.map_cons, List.map_nil]) (by simp only [cleanS, cle_owM, cle_own, cle_nown, cle_obj, cle_off, cle_box, okC, liveA, List.take_succ_cons, List.take_zero, List.all_cons, List.all_nil, List.getElem?_cons_zero, List.getElem?_cons_succ, isO_owM, isO_own, isO_nown, TC.isB, beq_self_eq_true, Bool.and_self, Bool.and_true, ok1, ok2, List.map_cons, List.map_nil]) ?_)
          rintro y os' ⟨rfl, rfl⟩
          refine AL.no ?_
          refine AL.nil ?_
          change AW _ _ _ _ _
          refine AW.seq ?_
          refine AW.region ?_
          refine AL.r (rd_move rfl rfl) ?_
          refine AL.op rfl (op_callo (all_c (hs.ok.crash keep) (by omega) rfl 1) rfl (by kernel_rfl) [0] (by decide) (by simp only [List.map_cons, List.map_nil, renT, renC_owM, renC_box, renC_own, renC_nown, renC_obj, renC_off, ren0, List.getD_cons_zero, List.getD_cons_succ]; exact ⟨rfl, trivial⟩) rfl (by simp only [cleanS, cle_owM, cle_own, cle_nown, cle_obj, cle_off, cle_box, okC, liveA, List.take_succ_cons, List.take_zero, List.all_cons, List.all_nil, List.getElem?_cons_zero, List.getElem?_cons_succ, isO_owM, isO_own, isO_nown, TC.isB, beq_self_eq_true, Bool.and_self, Bool.and_true, ok1, ok2, List.map_cons, List.map_nil]) (by simp only [cleanS, cle_owM, cle_own, cle_nown, cle_obj, cle_off, cle_box, okC, liveA, List.take_succ_cons, List.take_zero, List.all_cons, List.all_nil, List.getElem?_cons_zero, List.getElem?_cons_succ, isO_owM, isO_own, isO_nown, TC.isB, beq_self_eq_true, Bool.and_self, Bool.and_true, ok1, ok2, List.map_cons, List.map_nil]) ?_)
          rintro y os' ⟨rfl, rfl⟩
          refine AL.no ?_
          refine AL.op rfl (AOpB.op (op_alloc 3 rfl ze_43 rfl ?_))
          refine AL.no ?_
          refine AL.op rfl (op_store rfl rfl rfl rfl rfl rfl sz_43 (Nat.le_of_ble_eq_true rfl) ?_)
          refine AL.no ?_
          refine AL.nil ?_
          change AW _ _ _ _ _
          refine AW.seq ?_
          refine AW.region ?_
          obtain ⟨r, hr1, hr2, hr3⟩ := hs.crash keep
          simp only [hr2, cs1]
          obtain ⟨hp0, hq0⟩ := pre_take (hr1 0 (by omega)); obtain ⟨hp1, hq1⟩ := pre_take (hr1 1 (by omega)); obtain ⟨hp2, hq2⟩ := pre_take (hr1 2 (by omega)); obtain ⟨hp3, hq3⟩ := pre_take (hr1 3 (by omega))
          have hn0 := hc.ok.nlen 0; have hn1 := hc.ok.nlen 1; have hn2 := hc.ok.nlen 2; have hn3 := hc.ok.nlen 3
          have ha0 := (hs.ok.crash keep).nlen 0; have ha1 := (hs.ok.crash keep).nlen 1; have ha2 := (hs.ok.crash keep).nlen 2; have ha3 := (hs.ok.crash keep).nlen 3
          rw [hr2, List.length_append] at ha0 ha1 ha2 ha3
          obtain ⟨mx, hmx⟩ : ∃ mx, (if keep < 0 then (0 : Int) else keep) = mx := ⟨_, rfl⟩
          rw [hmx] at hr3; simp only [tot] at hr3
          refine AL.r (rd_assign rfl rfl) ?_
          refine AL.nil ?_
          change AW _ _ _ _ _
          refine AW.seq ?_
          refine AW.seq ?_
          refine AW.region ?_
          refine AL.r (rd_assign rfl rfl) ?_
          refine AL.nil ?_
          change AW _ _ _ _ _
          refine AW.block ?_
          refine AW.unroll 5 ?_
          change AW _ _ _ _ _
          refine AW.seq ?_
          refine AW.seq ?_
          refine AW.region ?_
          refine AL.r (rd_move rfl rfl) ?_
          refine AL.r (rd_bin rfl rfl rfl (fun _ => rfl)) ?_
          refine AL.nil ?_
          change AW _ _ _ _ _
          refine AW.cond_t rfl ?_
          refine AW.skip ?_
          change AW _ _ _ _ _
          refine AW.seq ?_
          refine AW.block ?_
          refine AW.seq ?_
          refine AW.draw (by kernel_rfl) ?_
          refine AD.r 0 rfl (rd_move rfl rfl) rfl ?_
          refine AD.r 1 rfl (rd_iaddr_bx (i := 0) rfl ar_43 rfl rfl rfl (by first | rfl | omega) (by decide)) rfl ?_
          refine AD.r 2 rfl (rd_load_bx rfl ag_9 rfl rfl rfl) rfl ?_
          refine AD.r 3 rfl (rd_len_str rfl str_9 rfl) rfl ?_
          refine AD.r 4 rfl (rd_move rfl rfl) rfl ?_
          refine AD.r 5 rfl (rd_iaddr_bx (i := 0) rfl ar_43 rfl rfl rfl (by first | rfl | omega) (by decide)) rfl ?_
          refine AD.r 6 rfl (rd_load_bx rfl ag_9 rfl rfl rfl) rfl ?_
          refine AD.r 7 rfl (rd_len_str rfl str_9 rfl) rfl ?_
          refine AD.r 8 rfl (rd_arith_sub rfl rfl rfl (by first | exact IntWalk.i64_in _ (by omega) | rfl)) rfl ?_
          refine AD.r 9 rfl (rd_assign rfl rfl) rfl ?_
          refine AD.done (by kernel_rfl) ?_
          change AW _ _ _ _ _
          refine AW.seq ?_
          refine AW.seq ?_
          refine AW.draw (by kernel_rfl) ?_
          refine AD.r 0 rfl (rd_move rfl rfl) rfl ?_
          refine AD.r 1 rfl (rd_bin rfl rfl rfl (fun _ => rfl)) rfl ?_
          refine AD.r 2 rfl (rd_move rfl rfl) rfl ?_
          refine AD.fork (d := 151) rfl (fun h151 => ?_) (fun h151 => ?_)
          · (try simp only [decide_eq_true_eq, decide_eq_false_iff_not, beq_iff_eq, beq_eq_false_iff_ne, bne_iff_ne, bne_eq_false_iff_eq, Bool.not_eq_true', Bool.not_eq_false', ne_eq, Bool.not_eq_eq_eq_not, Bool.not_true, Bool.not_false, gt_iff_lt, ge_iff_le, Bool.not_not] at h151)
            omega
          · (try simp only [decide_eq_true_eq, decide_eq_false_iff_not, beq_iff_eq, beq_eq_false_iff_ne, bne_iff_ne, bne_eq_false_iff_eq, Bool.not_eq_true', Bool.not_eq_false', ne_eq, Bool.not_eq_eq_eq_not, Bool.not_true, Bool.not_false, gt_iff_lt, ge_iff_le, Bool.not_not] at h151)
            refine AD.n ?_
            refine AD.r 3 rfl (rd_move rfl rfl) ⟨_, _, rfl, rfl, rfl⟩ ?_
            refine AD.r 4 rfl (rd_iaddr_bx (i := 0) rfl ar_43 rfl rfl rfl (by first | rfl | omega) (by decide)) ⟨_, _, rfl, rfl, rfl⟩ ?_
            refine AD.r 5 rfl (rd_load_bx rfl ag_9 rfl rfl rfl) ⟨_, _, rfl, rfl, rfl⟩ ?_
            refine AD.r 6 rfl (rd_move rfl rfl) ⟨_, _, rfl, rfl, rfl⟩ ?_
            refine AD.r 7 rfl (rd_iaddr_bx (i := 0) rfl ar_43 rfl rfl rfl (by first | rfl | omega) (by decide)) ⟨_, _, rfl, rfl, rfl⟩ ?_
            refine AD.r 8 rfl (rd_load_bx rfl ag_9 rfl rfl rfl) ⟨_, _, rfl, rfl, rfl⟩ ?_
            refine AD.r 9 rfl (rd_move rfl rfl) ⟨_, _, rfl, rfl, rfl⟩ ?_
            refine AD.r 10 rfl (rd_iaddr_bx (i := 0) rfl ar_43 rfl rfl rfl (by first | rfl | omega) (by decide)) ⟨_, _, rfl, rfl, rfl⟩ ?_
            refine AD.r 11 rfl (rd_load_bx rfl ag_9 rfl rfl rfl) ⟨_, _, rfl, rfl, rfl⟩ ?_
            refine AD.r 12 rfl (rd_move rfl rfl) ⟨_, _, rfl, rfl, rfl⟩ ?_
            refine AD.r 13 rfl (rd_move rfl rfl) ⟨_, _, rfl, rfl, rfl⟩ ?_
            refine AD.r 14 rfl (rd_iaddr_bx (i := 0) rfl ar_43 rfl rfl rfl (by first | rfl | omega) (by decide)) ⟨_, _, rfl, rfl, rfl⟩ ?_
            refine AD.r 15 rfl (rd_load_bx rfl ag_9 rfl rfl rfl) ⟨_, _, rfl, rfl, rfl⟩ ?_
            refine AD.r 16 rfl (rd_len_str rfl str_9 rfl) ⟨_, _, rfl, rfl, rfl⟩ ?_
            refine AD.r 17 rfl (rd_min rfl rfl rfl (rfl)) ⟨_, _, rfl, rfl, rfl⟩ ?_
            refine AD.r 18 rfl (rd_slice_str rfl str_9 rfl (n := (r 0).length) rfl ⟨_, _, rfl, (by rw [if_neg (by omega)]; omega)⟩ (by omega) (by omega)) ⟨_, _, rfl, rfl, rfl⟩ ?_
            refine AD.r 19 rfl (rd_scat rfl rfl rfl (by simp only [List.length_take, List.length_drop]; omega)) ⟨_, _, rfl, rfl, rfl⟩ ?_
            refine AD.r 20 rfl (rd_sne rfl rfl rfl) ⟨_, _, rfl, rfl, rfl⟩ ?_
            refine AD.r 21 rfl (rd_pick_f rfl rfl rfl) rfl ?_
            refine AD.done (by kernel_rfl) ?_
            change AW _ _ _ _ _
            refine AW.cond rfl (fun h170 => ?_) (fun h170 => ?_)
            · (try simp only [decide_eq_true_eq, decide_eq_false_iff_not, beq_iff_eq, beq_eq_false_iff_ne, bne_iff_ne, bne_eq_false_iff_eq, Bool.not_eq_true', Bool.not_eq_false', ne_eq, Bool.not_eq_eq_eq_not, Bool.not_true, Bool.not_false, gt_iff_lt, ge_iff_le, Bool.not_not] at h170)
              refine AW.seq ?_
              exact (h170 (by first | rw [hp0] | rw [hp1] | rw [hp2] | rw [hp3])).elim
            · (try simp only [decide_eq_true_eq, decide_eq_false_iff_not, beq_iff_eq, beq_eq_false_iff_ne, bne_iff_ne, bne_eq_false_iff_eq, Bool.not_eq_true', Bool.not_eq_false', ne_eq, Bool.not_eq_eq_eq_not, Bool.not_true, Bool.not_false, gt_iff_lt, ge_iff_le, Bool.not_not] at h170)
              refine AW.skip ?_
              change AW _ _ _ _ _
              refine AW.region ?_
              refine AL.r (rd_move rfl rfl) ?_
              refine AL.r (rd_move rfl rfl) ?_
              refine AL.r (rd_arith_add rfl rfl rfl (by first | exact IntWalk.i64_in _ (by omega) | rfl)) ?_
              refine AL.r (rd_assign rfl rfl) ?_
              refine AL.nil ?_
              change AW _ _ _ _ _
              refine AW.region ?_
              refine AL.r (rd_move rfl rfl) ?_
              refine AL.r (rd_arith_add rfl rfl rfl (rfl : _ = (1 : Int))) ?_
              refine AL.r (rd_assign rfl rfl) ?_
              refine AL.nil ?_
              change AW _ _ _ _ _
              refine AW.seq ?_
              refine AW.seq ?_
              refine AW.region ?_
              refine AL.r (rd_move rfl rfl) ?_
              refine AL.r (rd_bin rfl rfl rfl (fun _ => rfl)) ?_
              refine AL.nil ?_
              change AW _ _ _ _ _
              refine AW.cond_t rfl ?_
              refine AW.skip ?_
              change AW _ _ _ _ _
              refine AW.seq ?_
              refine AW.block ?_
              refine AW.seq ?_
              refine AW.draw (by kernel_rfl) ?_
              refine AD.r 0 rfl (rd_move rfl rfl) rfl ?_
              refine AD.r 1 rfl (rd_iaddr_bx (i := 1) rfl ar_43 rfl rfl rfl (by first | rfl | omega) (by decide)) rfl ?_
              refine AD.r 2 rfl (rd_load_bx rfl ag_9 rfl rfl rfl) rfl ?_
              refine AD.r 3 rfl (rd_len_str rfl str_9 rfl) rfl ?_
              refine AD.r 4 rfl (rd_move rfl rfl) rfl ?_
              refine AD.r 5 rfl (rd_iaddr_bx (i := 1) rfl ar_43 rfl rfl rfl (by first | rfl | omega) (by decide)) rfl ?_
              refine AD.r 6 rfl (rd_load_bx rfl ag_9 rfl rfl rfl) rfl ?_
              refine AD.r 7 rfl (rd_len_str rfl str_9 rfl) rfl ?_
              refine AD.r 8 rfl (rd_arith_sub rfl rfl rfl (by first | exact IntWalk.i64_in _ (by omega) | rfl)) rfl ?_
              refine AD.r 9 rfl (rd_assign rfl rfl) rfl ?_
              refine AD.done (by kernel_rfl) ?_
              change AW _ _ _ _ _
              refine AW.seq ?_
              refine AW.seq ?_
              refine AW.draw (by kernel_rfl) ?_
              refine AD.r 0 rfl (rd_move rfl rfl) rfl ?_
              refine AD.r 1 rfl (rd_bin rfl rfl rfl (fun _ => rfl)) rfl ?_
              refine AD.r 2 rfl (rd_move rfl rfl) rfl ?_
              refine AD.fork (d := 151) rfl (fun h151 => ?_) (fun h151 => ?_)
              · (try simp only [decide_eq_true_eq, decide_eq_false_iff_not, beq_iff_eq, beq_eq_false_iff_ne, bne_iff_ne, bne_eq_false_iff_eq, Bool.not_eq_true', Bool.not_eq_false', ne_eq, Bool.not_eq_eq_eq_not, Bool.not_true, Bool.not_false, gt_iff_lt, ge_iff_le, Bool.not_not] at h151)
                omega
              · (try simp only [decide_eq_true_eq, decide_eq_false_iff_not, beq_iff_eq, beq_eq_false_iff_ne, bne_iff_ne, bne_eq_false_iff_eq, Bool.not_eq_true', Bool.not_eq_false', ne_eq, Bool.not_eq_eq_eq_not, Bool.not_true, Bool.not_false, gt_iff_lt, ge_iff_le, Bool.not_not] at h151)
                refine AD.n ?_
                refine AD.r 3 rfl (rd_move rfl rfl) ⟨_, _, rfl, rfl, rfl⟩ ?_
                refine AD.r 4 rfl (rd_iaddr_bx (i := 1) rfl ar_43 rfl rfl rfl (by first | rfl | omega) (by decide)) ⟨_, _, rfl, rfl, rfl⟩ ?_
                refine AD.r 5 rfl (rd_load_bx rfl ag_9 rfl rfl rfl) ⟨_, _, rfl, rfl, rfl⟩ ?_
                refine AD.r 6 rfl (rd_move rfl rfl) ⟨_, _, rfl, rfl, rfl⟩ ?_
                refine AD.r 7 rfl (rd_iaddr_bx (i := 1) rfl ar_43 rfl rfl rfl (by first | rfl | omega) (by decide)) ⟨_, _, rfl, rfl, rfl⟩ ?_
                refine AD.r 8 rfl (rd_load_bx rfl ag_9 rfl rfl rfl) ⟨_, _, rfl, rfl, rfl⟩ ?_
                refine AD.r 9 rfl (rd_move rfl rfl) ⟨_, _, rfl, rfl, rfl⟩ ?_
                refine AD.r 10 rfl (rd_iaddr_bx (i := 1) rfl ar_43 rfl rfl rfl (by first | rfl | omega) (by decide)) ⟨_, _, rfl, rfl, rfl⟩ ?_
                refine AD.r 11 rfl (rd_load_bx rfl ag_9 rfl rfl rfl) ⟨_, _, rfl, rfl, rfl⟩ ?_
                refine AD.r 12 rfl (rd_move rfl rfl) ⟨_, _, rfl, rfl, rfl⟩ ?_
                refine AD.r 13 rfl (rd_move rfl rfl) ⟨_, _, rfl, rfl, rfl⟩ ?_
                refine AD.r 14 rfl (rd_iaddr_bx (i := 1) rfl ar_43 rfl rfl rfl (by first | rfl | omega) (by decide)) ⟨_, _, rfl, rfl, rfl⟩ ?_
                refine AD.r 15 rfl (rd_load_bx rfl ag_9 rfl rfl rfl) ⟨_, _, rfl, rfl, rfl⟩ ?_
                refine AD.r 16 rfl (rd_len_str rfl str_9 rfl) ⟨_, _, rfl, rfl, rfl⟩ ?_
                refine AD.r 17 rfl (rd_min rfl rfl rfl (rfl)) ⟨_, _, rfl, rfl, rfl⟩ ?_
                refine AD.r 18 rfl (rd_slice_str rfl str_9 rfl (n := (r 1).length) rfl ⟨_, _, rfl, (by rw [if_neg (by omega)]; omega)⟩ (by omega) (by omega)) ⟨_, _, rfl, rfl, rfl⟩ ?_
                refine AD.r 19 rfl (rd_scat rfl rfl rfl (by simp only [List.length_take, List.length_drop]; omega)) ⟨_, _, rfl, rfl, rfl⟩ ?_
                refine AD.r 20 rfl (rd_sne rfl rfl rfl) ⟨_, _, rfl, rfl, rfl⟩ ?_
                refine AD.r 21 rfl (rd_pick_f rfl rfl rfl) rfl ?_
                refine AD.done (by kernel_rfl) ?_
                change AW _ _ _ _ _
                refine AW.cond rfl (fun h170 => ?_) (fun h170 => ?_)
                · (try simp only [decide_eq_true_eq, decide_eq_false_iff_not, beq_iff_eq, beq_eq_false_iff_ne, bne_iff_ne, bne_eq_false_iff_eq, Bool.not_eq_true', Bool.not_eq_false', ne_eq, Bool.not_eq_eq_eq_not, Bool.not_true, Bool.not_false, gt_iff_lt, ge_iff_le, Bool.not_not] at h170)
                  refine AW.seq ?_
                  exact (h170 (by first | rw [hp0] | rw [hp1] | rw [hp2] | rw [hp3])).elim
                · (try simp only [decide_eq_true_eq, decide_eq_false_iff_not, beq_iff_eq, beq_eq_false_iff_ne, bne_iff_ne, bne_eq_false_iff_eq, Bool.not_eq_true', Bool.not_eq_false', ne_eq, Bool.not_eq_eq_eq_not, Bool.not_true, Bool.not_false, gt_iff_lt, ge_iff_le, Bool.not_not] at h170)
                  refine AW.skip ?_
                  change AW _ _ _ _ _
                  refine AW.region ?_
                  refine AL.r (rd_move rfl rfl) ?_
                  refine AL.r (rd_move rfl rfl) ?_
                  refine AL.r (rd_arith_add rfl rfl rfl (by first | exact IntWalk.i64_in _ (by omega) | rfl)) ?_
                  refine AL.r (rd_assign rfl rfl) ?_
                  refine AL.nil ?_
                  change AW _ _ _ _ _
                  refine AW.region ?_
                  refine AL.r (rd_move rfl rfl) ?_
                  refine AL.r (rd_arith_add rfl rfl rfl (rfl : _ = (2 : Int))) ?_
                  refine AL.r (rd_assign rfl rfl) ?_
                  refine AL.nil ?_
                  change AW _ _ _ _ _
                  refine AW.seq ?_
                  refine AW.seq ?_
                  refine AW.region ?_
                  refine AL.r (rd_move rfl rfl) ?_
                  refine AL.r (rd_bin rfl rfl rfl (fun _ => rfl)) ?_
                  refine AL.nil ?_
                  change AW _ _ _ _ _
                  refine AW.cond_t rfl ?_
                  refine AW.skip ?_
                  change AW _ _ _ _ _
                  refine AW.seq ?_
                  refine AW.block ?_
                  refine AW.seq ?_
                  refine AW.draw (by kernel_rfl) ?_
                  refine AD.r 0 rfl (rd_move rfl rfl) rfl ?_
                  refine AD.r 1 rfl (rd_iaddr_bx (i := 2) rfl ar_43 rfl rfl rfl (by first | rfl | omega) (by decide)) rfl ?_
                  refine AD.r 2 rfl (rd_load_bx rfl ag_9 rfl rfl rfl) rfl ?_
                  refine AD.r 3 rfl (rd_len_str rfl str_9 rfl) rfl ?_
                  refine AD.r 4 rfl (rd_move rfl rfl) rfl ?_
                  refine AD.r 5 rfl (rd_iaddr_bx (i := 2) rfl ar_43 rfl rfl rfl (by first | rfl | omega) (by decide)) rfl ?_
                  refine AD.r 6 rfl (rd_load_bx rfl ag_9 rfl rfl rfl) rfl ?_
                  refine AD.r 7 rfl (rd_len_str rfl str_9 rfl) rfl ?_
                  refine AD.r 8 rfl (rd_arith_sub rfl rfl rfl (by first | exact IntWalk.i64_in _ (by omega) | rfl)) rfl ?_
                  refine AD.r 9 rfl (rd_assign rfl rfl) rfl ?_
                  refine AD.done (by kernel_rfl) ?_
                  change AW _ _ _ _ _
                  refine AW.seq ?_
                  refine AW.seq ?_
                  refine AW.draw (by kernel_rfl) ?_
                  refine AD.r 0 rfl (rd_move rfl rfl) rfl ?_
                  refine AD.r 1 rfl (rd_bin rfl rfl rfl (fun _ => rfl)) rfl ?_
                  refine AD.r 2 rfl (rd_move rfl rfl) rfl ?_
                  refine AD.fork (d := 151) rfl (fun h151 => ?_) (fun h151 => ?_)
                  · (try simp only [decide_eq_true_eq, decide_eq_false_iff_not, beq_iff_eq, beq_eq_false_iff_ne, bne_iff_ne, bne_eq_false_iff_eq, Bool.not_eq_true', Bool.not_eq_false', ne_eq, Bool.not_eq_eq_eq_not, Bool.not_true, Bool.not_false, gt_iff_lt, ge_iff_le, Bool.not_not] at h151)
                    omega
                  · (try simp only [decide_eq_true_eq, decide_eq_false_iff_not, beq_iff_eq, beq_eq_false_iff_ne, bne_iff_ne, bne_eq_false_iff_eq, Bool.not_eq_true', Bool.not_eq_false', ne_eq, Bool.not_eq_eq_eq_not, Bool.not_true, Bool.not_false, gt_iff_lt, ge_iff_le, Bool.not_not] at h151)
                    refine AD.n ?_
                    refine AD.r 3 rfl (rd_move rfl rfl) ⟨_, _, rfl, rfl, rfl⟩ ?_
                    refine AD.r 4 rfl (rd_iaddr_bx (i := 2) rfl ar_43 rfl rfl rfl (by first | rfl | omega) (by decide)) ⟨_, _, rfl, rfl, rfl⟩ ?_
                    refine AD.r 5 rfl (rd_load_bx rfl ag_9 rfl rfl rfl) ⟨_, _, rfl, rfl, rfl⟩ ?_
                    refine AD.r 6 rfl (rd_move rfl rfl) ⟨_, _, rfl, rfl, rfl⟩ ?_
                    refine AD.r 7 rfl (rd_iaddr_bx (i := 2) rfl ar_43 rfl rfl rfl (by first | rfl | omega) (by decide)) ⟨_, _, rfl, rfl, rfl⟩ ?_
                    refine AD.r 8 rfl (rd_load_bx rfl ag_9 rfl rfl rfl) ⟨_, _, rfl, rfl, rfl⟩ ?_
                    refine AD.r 9 rfl (rd_move rfl rfl) ⟨_, _, rfl, rfl, rfl⟩ ?_
                    refine AD.r 10 rfl (rd_iaddr_bx (i := 2) rfl ar_43 rfl rfl rfl (by first | rfl | omega) (by decide)) ⟨_, _, rfl, rfl, rfl⟩ ?_
                    refine AD.r 11 rfl (rd_load_bx rfl ag_9 rfl rfl rfl) ⟨_, _, rfl, rfl, rfl⟩ ?_
                    refine AD.r 12 rfl (rd_move rfl rfl) ⟨_, _, rfl, rfl, rfl⟩ ?_
                    refine AD.r 13 rfl (rd_move rfl rfl) ⟨_, _, rfl, rfl, rfl⟩ ?_
                    refine AD.r 14 rfl (rd_iaddr_bx (i := 2) rfl ar_43 rfl rfl rfl (by first | rfl | omega) (by decide)) ⟨_, _, rfl, rfl, rfl⟩ ?_
                    refine AD.r 15 rfl (rd_load_bx rfl ag_9 rfl rfl rfl) ⟨_, _, rfl, rfl, rfl⟩ ?_
                    refine AD.r 16 rfl (rd_len_str rfl str_9 rfl) ⟨_, _, rfl, rfl, rfl⟩ ?_
                    refine AD.r 17 rfl (rd_min rfl rfl rfl (rfl)) ⟨_, _, rfl, rfl, rfl⟩ ?_
                    refine AD.r 18 rfl (rd_slice_str rfl str_9 rfl (n := (r 2).length) rfl ⟨_, _, rfl, (by rw [if_neg (by omega)]; omega)⟩ (by omega) (by omega)) ⟨_, _, rfl, rfl, rfl⟩ ?_
                    refine AD.r 19 rfl (rd_scat rfl rfl rfl (by simp only [List.length_take, List.length_drop]; omega)) ⟨_, _, rfl, rfl, rfl⟩ ?_
                    refine AD.r 20 rfl (rd_sne rfl rfl rfl) ⟨_, _, rfl, rfl, rfl⟩ ?_
                    refine AD.r 21 rfl (rd_pick_f rfl rfl rfl) rfl ?_
                    refine AD.done (by kernel_rfl) ?_
                    change AW _ _ _ _ _
                    refine AW.cond rfl (fun h170 => ?_) (fun h170 => ?_)
                    · (try simp only [decide_eq_true_eq, decide_eq_false_iff_not, beq_iff_eq, beq_eq_false_iff_ne, bne_iff_ne, bne_eq_false_iff_eq, Bool.not_eq_true', Bool.not_eq_false', ne_eq, Bool.not_eq_eq_eq_not, Bool.not_true, Bool.not_false, gt_iff_lt, ge_iff_le, Bool.not_not] at h170)
                      refine AW.seq ?_
                      exact (h170 (by first | rw [hp0] | rw [hp1] | rw [hp2] | rw [hp3])).elim
                    · (try simp only [decide_eq_true_eq, decide_eq_false_iff_not, beq_iff_eq, beq_eq_false_iff_ne, bne_iff_ne, bne_eq_false_iff_eq, Bool.not_eq_true', Bool.not_eq_false', ne_eq, Bool.not_eq_eq_eq_not, Bool.not_true, Bool.not_false, gt_iff_lt, ge_iff_le, Bool.not_not] at h170)
                      refine AW.skip ?_
                      change AW _ _ _ _ _
                      refine AW.region ?_
                      refine AL.r (rd_move rfl rfl) ?_
                      refine AL.r (rd_move rfl rfl) ?_
                      refine AL.r (rd_arith_add rfl rfl rfl (by first | exact IntWalk.i64_in _ (by omega) | rfl)) ?_
                      refine AL.r (rd_assign rfl rfl) ?_
                      refine AL.nil ?_
                      change AW _ _ _ _ _
                      refine AW.region ?_
                      refine AL.r (rd_move rfl rfl) ?_
                      refine AL.r (rd_arith_add rfl rfl rfl (rfl : _ = (3 : Int))) ?_
                      refine AL.r (rd_assign rfl rfl) ?_
                      refine AL.nil ?_
                      change AW _ _ _ _ _
                      refine AW.seq ?_
                      refine AW.seq ?_
                      refine AW.region ?_
                      refine AL.r (rd_move rfl rfl) ?_
                      refine AL.r (rd_bin rfl rfl rfl (fun _ => rfl)) ?_
                      refine AL.nil ?_
                      change AW _ _ _ _ _
                      refine AW.cond_t rfl ?_
                      refine AW.skip ?_
                      change AW _ _ _ _ _
                      refine AW.seq ?_
                      refine AW.block ?_
                      refine AW.seq ?_
                      refine AW.draw (by kernel_rfl) ?_
                      refine AD.r 0 rfl (rd_move rfl rfl) rfl ?_
                      refine AD.r 1 rfl (rd_iaddr_bx (i := 3) rfl ar_43 rfl rfl rfl (by first | rfl | omega) (by decide)) rfl ?_
                      refine AD.r 2 rfl (rd_load_bx rfl ag_9 rfl rfl rfl) rfl ?_
                      refine AD.r 3 rfl (rd_len_str rfl str_9 rfl) rfl ?_
                      refine AD.r 4 rfl (rd_move rfl rfl) rfl ?_
                      refine AD.r 5 rfl (rd_iaddr_bx (i := 3) rfl ar_43 rfl rfl rfl (by first | rfl | omega) (by decide)) rfl ?_
                      refine AD.r 6 rfl (rd_load_bx rfl ag_9 rfl rfl rfl) rfl ?_
                      refine AD.r 7 rfl (rd_len_str rfl str_9 rfl) rfl ?_
                      refine AD.r 8 rfl (rd_arith_sub rfl rfl rfl (by first | exact IntWalk.i64_in _ (by omega) | rfl)) rfl ?_
                      refine AD.r 9 rfl (rd_assign rfl rfl) rfl ?_
                      refine AD.done (by kernel_rfl) ?_
                      change AW _ _ _ _ _
                      refine AW.seq ?_
                      refine AW.seq ?_
                      refine AW.draw (by kernel_rfl) ?_
                      refine AD.r 0 rfl (rd_move rfl rfl) rfl ?_
                      refine AD.r 1 rfl (rd_bin rfl rfl rfl (fun _ => rfl)) rfl ?_
                      refine AD.r 2 rfl (rd_move rfl rfl) rfl ?_
                      refine AD.fork (d := 151) rfl (fun h151 => ?_) (fun h151 => ?_)
                      · (try simp only [decide_eq_true_eq, decide_eq_false_iff_not, beq_iff_eq, beq_eq_false_iff_ne, bne_iff_ne, bne_eq_false_iff_eq, Bool.not_eq_true', Bool.not_eq_false', ne_eq, Bool.not_eq_eq_eq_not, Bool.not_true, Bool.not_false, gt_iff_lt, ge_iff_le, Bool.not_not] at h151)
                        omega
                      · (try simp only [decide_eq_true_eq, decide_eq_false_iff_not, beq_iff_eq, beq_eq_false_iff_ne, bne_iff_ne, bne_eq_false_iff_eq, Bool.not_eq_true', Bool.not_eq_false', ne_eq, Bool.not_eq_eq_eq_not, Bool.not_true, Bool.not_false, gt_iff_lt, ge_iff_le, Bool.not_not] at h151)
                        refine AD.n ?_
                        refine AD.r 3 rfl (rd_move rfl rfl) ⟨_, _, rfl, rfl, rfl⟩ ?_
                        refine AD.r 4 rfl (rd_iaddr_bx (i := 3) rfl ar_43 rfl rfl rfl (by first | rfl | omega) (by decide)) ⟨_, _, rfl, rfl, rfl⟩ ?_
                        refine AD.r 5 rfl (rd_load_bx rfl ag_9 rfl rfl rfl) ⟨_, _, rfl, rfl, rfl⟩ ?_
                        refine AD.r 6 rfl (rd_move rfl rfl) ⟨_, _, rfl, rfl, rfl⟩ ?_
                        refine AD.r 7 rfl (rd_iaddr_bx (i := 3) rfl ar_43 rfl rfl rfl (by first | rfl | omega) (by decide)) ⟨_, _, rfl, rfl, rfl⟩ ?_
                        refine AD.r 8 rfl (rd_load_bx rfl ag_9 rfl rfl rfl) ⟨_, _, rfl, rfl, rfl⟩ ?_
                        refine AD.r 9 rfl (rd_move rfl rfl) ⟨_, _, rfl, rfl, rfl⟩ ?_
                        refine AD.r 10 rfl (rd_iaddr_bx (i := 3) rfl ar_43 rfl rfl rfl (by first | rfl | omega) (by decide)) ⟨_, _, rfl, rfl, rfl⟩ ?_
                        refine AD.r 11 rfl (rd_load_bx rfl ag_9 rfl rfl rfl) ⟨_, _, rfl, rfl, rfl⟩ ?_
                        refine AD.r 12 rfl (rd_move rfl rfl) ⟨_, _, rfl, rfl, rfl⟩ ?_
                        refine AD.r 13 rfl (rd_move rfl rfl) ⟨_, _, rfl, rfl, rfl⟩ ?_
                        refine AD.r 14 rfl (rd_iaddr_bx (i := 3) rfl ar_43 rfl rfl rfl (by first | rfl | omega) (by decide)) ⟨_, _, rfl, rfl, rfl⟩ ?_
                        refine AD.r 15 rfl (rd_load_bx rfl ag_9 rfl rfl rfl) ⟨_, _, rfl, rfl, rfl⟩ ?_
                        refine AD.r 16 rfl (rd_len_str rfl str_9 rfl) ⟨_, _, rfl, rfl, rfl⟩ ?_
                        refine AD.r 17 rfl (rd_min rfl rfl rfl (rfl)) ⟨_, _, rfl, rfl, rfl⟩ ?_
                        refine AD.r 18 rfl (rd_slice_str rfl str_9 rfl (n := (r 3).length) rfl ⟨_, _, rfl, (by rw [if_neg (by omega)]; omega)⟩ (by omega) (by omega)) ⟨_, _, rfl, rfl, rfl⟩ ?_
                        refine AD.r 19 rfl (rd_scat rfl rfl rfl (by simp only [List.length_take, List.length_drop]; omega)) ⟨_, _, rfl, rfl, rfl⟩ ?_
                        refine AD.r 20 rfl (rd_sne rfl rfl rfl) ⟨_, _, rfl, rfl, rfl⟩ ?_
                        refine AD.r 21 rfl (rd_pick_f rfl rfl rfl) rfl ?_
                        refine AD.done (by kernel_rfl) ?_
                        change AW _ _ _ _ _
                        refine AW.cond rfl (fun h170 => ?_) (fun h170 => ?_)
                        · (try simp only [decide_eq_true_eq, decide_eq_false_iff_not, beq_iff_eq, beq_eq_false_iff_ne, bne_iff_ne, bne_eq_false_iff_eq, Bool.not_eq_true', Bool.not_eq_false', ne_eq, Bool.not_eq_eq_eq_not, Bool.not_true, Bool.not_false, gt_iff_lt, ge_iff_le, Bool.not_not] at h170)
                          refine AW.seq ?_
                          exact (h170 (by first | rw [hp0] | rw [hp1] | rw [hp2] | rw [hp3])).elim
                        · (try simp only [decide_eq_true_eq, decide_eq_false_iff_not, beq_iff_eq, beq_eq_false_iff_ne, bne_iff_ne, bne_eq_false_iff_eq, Bool.not_eq_true', Bool.not_eq_false', ne_eq, Bool.not_eq_eq_eq_not, Bool.not_true, Bool.not_false, gt_iff_lt, ge_iff_le, Bool.not_not] at h170)
                          refine AW.skip ?_
                          change AW _ _ _ _ _
                          refine AW.region ?_
                          refine AL.r (rd_move rfl rfl) ?_
                          refine AL.r (rd_move rfl rfl) ?_
                          refine AL.r (rd_arith_add rfl rfl rfl (by first | exact IntWalk.i64_in _ (by omega) | rfl)) ?_
                          refine AL.r (rd_assign rfl rfl) ?_
                          refine AL.nil ?_
                          change AW _ _ _ _ _
                          refine AW.region ?_
                          refine AL.r (rd_move rfl rfl) ?_
                          refine AL.r (rd_arith_add rfl rfl rfl (rfl : _ = (4 : Int))) ?_
                          refine AL.r (rd_assign rfl rfl) ?_
                          refine AL.nil ?_
                          change AW _ _ _ _ _
                          refine AW.seq ?_
                          refine AW.seq ?_
                          refine AW.region ?_
                          refine AL.r (rd_move rfl rfl) ?_
                          refine AL.r (rd_bin rfl rfl rfl (fun _ => rfl)) ?_
                          refine AL.nil ?_
                          change AW _ _ _ _ _
                          refine AW.cond_f rfl ?_
                          refine AW.exit ?_
                          change AW _ _ _ _ _
                          refine AW.seq ?_
                          refine AW.region ?_
                          refine AL.r (rd_move rfl rfl) ?_
                          refine AL.r (rd_move rfl rfl) ?_
                          refine AL.r (rd_max rfl rfl rfl (hmx)) ?_
                          refine AL.r (rd_bin rfl rfl rfl (fun _ => rfl)) ?_
                          refine AL.r (rd_move rfl rfl) ?_
                          refine AL.fork (d := 178) rfl (fun h178 => ?_) (fun h178 => ?_)
                          · (try simp only [decide_eq_true_eq, decide_eq_false_iff_not, beq_iff_eq, beq_eq_false_iff_ne, bne_iff_ne, bne_eq_false_iff_eq, Bool.not_eq_true', Bool.not_eq_false', ne_eq, Bool.not_eq_eq_eq_not, Bool.not_true, Bool.not_false, gt_iff_lt, ge_iff_le, Bool.not_not] at h178)
                            refine AL.n ?_
                            refine AL.ro (rd_move rfl rfl) ?_
                            refine AL.on rfl rfl rfl (op_callo (od_waits (crashD e keep) 1) rfl (by kernel_rfl) [0] (by decide) (by simp only [List.map_cons, List.map_nil, renT, renC_owM, renC_box, renC_own, renC_nown, renC_obj, renC_off, ren0, List.getD_cons_zero, List.getD_cons_succ]; exact ⟨rfl, trivial⟩) rfl (by simp only [cleanS, cle_owM, cle_own, cle_nown, cle_obj, cle_off, cle_box, okC, liveA, List.take_succ_cons, List.take_zero, List.all_cons, List.all_nil, List.getElem?_cons_zero, List.getElem?_cons_succ, isO_owM, isO_own, isO_nown, TC.isB, beq_self_eq_true, Bool.and_self, Bool.and_true, ok1, ok2, List.map_cons, List.map_nil]) (by simp only [cleanS, cle_owM, cle_own, cle_nown, cle_obj, cle_off, cle_box, okC, liveA, List.take_succ_cons, List.take_zero, List.all_cons, List.all_nil, List.getElem?_cons_zero, List.getElem?_cons_succ, isO_owM, isO_own, isO_nown, TC.isB, beq_self_eq_true, Bool.and_self, Bool.and_true, ok1, ok2, List.map_cons, List.map_nil]) ?_)
                            rintro y os' ⟨rfl, rfl⟩
                            refine AL.no ?_
                            refine AL.ro (rd_bin rfl rfl rfl (fun _ => rfl)) ?_
                            refine AL.r (rd_pick_t rfl rfl rfl) ?_
                            refine AL.r (rd_move rfl rfl) ?_
                            refine AL.ro (rd_move rfl rfl) ?_
                            refine AL.on rfl rfl rfl (op_callo (od_dark (crashD e keep) 1) rfl (by kernel_rfl) [0] (by decide) (by simp only [List.map_cons, List.map_nil, renT, renC_owM, renC_box, renC_own, renC_nown, renC_obj, renC_off, ren0, List.getD_cons_zero, List.getD_cons_succ]; exact ⟨rfl, trivial⟩) rfl (by simp only [cleanS, cle_owM, cle_own, cle_nown, cle_obj, cle_off, cle_box, okC, liveA, List.take_succ_cons, List.take_zero, List.all_cons, List.all_nil, List.getElem?_cons_zero, List.getElem?_cons_succ, isO_owM, isO_own, isO_nown, TC.isB, beq_self_eq_true, Bool.and_self, Bool.and_true, ok1, ok2, List.map_cons, List.map_nil]) (by simp only [cleanS, cle_owM, cle_own, cle_nown, cle_obj, cle_off, cle_box, okC, liveA, List.take_succ_cons, List.take_zero, List.all_cons, List.all_nil, List.getElem?_cons_zero, List.getElem?_cons_succ, isO_owM, isO_own, isO_nown, TC.isB, beq_self_eq_true, Bool.and_self, Bool.and_true, ok1, ok2, List.map_cons, List.map_nil]) ?_)
                            rintro y os' ⟨rfl, rfl⟩
                            refine AL.no ?_
                            refine AL.ro (rd_un rfl rfl (fun _ => rfl)) ?_
                            refine AL.r (rd_pick_t rfl rfl rfl) ?_
                            refine AL.r (rd_assign rfl rfl) ?_
                            refine AL.nil ?_
                            change AW _ _ _ _ _
                            refine AW.ret ?_
                            change ResA _ _ _ _ _
                            refine res1 rfl (ResV.tmp rfl) rfl ?_
                            rfl
                          · (try simp only [decide_eq_true_eq, decide_eq_false_iff_not, beq_iff_eq, beq_eq_false_iff_ne, bne_iff_ne, bne_eq_false_iff_eq, Bool.not_eq_true', Bool.not_eq_false', ne_eq, Bool.not_eq_eq_eq_not, Bool.not_true, Bool.not_false, gt_iff_lt, ge_iff_le, Bool.not_not] at h178)
                            omega
end Go.Proofs.Ytgjpeldgjpgbcaa
