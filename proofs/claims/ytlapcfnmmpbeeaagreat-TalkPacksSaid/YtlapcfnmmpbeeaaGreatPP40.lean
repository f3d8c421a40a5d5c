/- Texts of the proof of talkPacks_holds, put together by a program: TkC. -/
import Derived.Test.YtlapcfnmmpbeeaaGreatPP32
set_option linter.unusedSimpArgs false
set_option linter.unusedVariables false
namespace Go.Proofs.YtlapcfnmmpbeeaaGreat
set_option maxRecDepth 100000
set_option maxRecDepth 100000
open Go.RowKit
theorem nstags_c (l m : List TagD) : AC Tryz.prog 36 [.sl (l.map TagD.cs), .sl (m.map TagD.cs)] (fun x => x = .s (AB (decide (l = m)))) := by
  refine AC.of' 24 0 Tryz.func36 rfl ?_; change AW _ _ _ _ []; refine AW.seq (AW.region (AL.ra ?_)); refine AL.nil (AW.seq (AW.seq (AW.region (AL.len (x := .tmp 0) rfl (fun hlen => ?_))))); rw [List.length_map] at hlen; unfold maxLen at hlen; refine AL.rm ?_; refine AL.r (rd_len_sl rfl el_24 rfl) ?_; refine AL.rm ?_; refine AL.r (rd_len_sl rfl el_24 rfl) ?_; refine AL.r qb ?_; refine AL.nil (AW.cd rfl (fun h10 => ?_) (fun h10 => ?_))
  ·refine AW.seq (AW.region (AL.ra ?_)); refine AL.nil (AW.ret (r1t ?_))
   (first | (rw [decide_eq_false (fun e => by subst e; simp_all)]; done) | (rw [decide_eq_true (by rw [List.take_of_length_le (by omega), List.take_of_length_le (by omega)] at hok; exact hok)]; done) | grind)
  ·refine AW.skip (AW.seq (AW.seq (AW.region (AL.ra ?_)))); refine AL.nil (AW.block (AW.loopM (ι := Nat) [4, 11, 12, 13, 14, 15, 16, 17, 18, 19, 20, 21, 22, 23, 24, 25] (fun k => [(5, AI (k : Int))]) [] (fun k => []) (fun k => k ≤ l.length ∧ l.take k = m.take k) (fun k => l.length - k) 0 (⟨by omega, rfl⟩) wk sk ?_)); rintro k gs hJ; refine AW.nm ?_
   obtain ⟨hk, hok⟩ := hJ
   refine AW.seq (AW.seq (AW.region ?_)); (iterate 2 refine AL.rm ?_); refine AL.r (rd_len_sl rfl el_24 rfl) ?_; refine AL.r qb ?_; refine AL.nil (AW.cd rfl (fun h14 => ?_) (fun h14 => ?_))
   ·refine AW.skip (AW.seq (AW.block (AW.seq (AW.draw (by kernel_rfl) ?_)))); refine AD.r 0 rfl (rd_move rfl rfl) rfl ?_; refine AD.r 1 rfl (rd_move rfl rfl) rfl ?_; refine AD.r 2 rfl (rd_iaddr_sl rfl el_24 rfl rfl rfl (get_mapA (by omega)) rfl) rfl ?_; refine AD.r 3 rfl (rd_loadN_ep rfl ag_34 rfl (Nat.le_of_ble_eq_true rfl) rfl) rfl ?_; refine AD.r 4 rfl (rd_move rfl rfl) rfl ?_; refine AD.r 5 rfl (rd_move rfl rfl) rfl ?_; refine AD.r 6 rfl (rd_iaddr_sl rfl el_24 rfl rfl rfl (get_mapA (by omega)) rfl) rfl ?_; refine AD.r 7 rfl (rd_loadN_ep rfl ag_34 rfl (Nat.le_of_ble_eq_true rfl) rfl) rfl ?_; refine AD.r 8 rfl (rd_ne_Tag rfl rfl rfl) rfl ?_; refine AD.done (by kernel_rfl) ?_; change AW _ _ _ _ _; refine AW.cd rfl (fun h25 => ?_) (fun h25 => ?_)
    ·refine AW.seq (AW.region (AL.ra ?_)); refine AL.nil (AW.ret (r1t ?_))
     (first | (rw [decide_eq_false (fun e => by subst e; simp_all)]; done) | (rw [decide_eq_true (by rw [List.take_of_length_le (by omega), List.take_of_length_le (by omega)] at hok; exact hok)]; done) | grind)
    ·refine AW.skip ?_; change AW _ _ _ _ _; refine AW.region ?_; refine AL.rm ?_; refine AL.r (rd_arith_add rfl rfl rfl (by first | exact IntWalk.i64_in _ (by omega) | rfl)) ?_; refine AL.ra ?_; refine AL.nil ?_; refine ⟨k + 1, ?_, by first | omega | (simp only []; omega), ?_, ?_⟩
     ·exact ⟨by omega, take_eq_next (by omega) (by omega) hok (by grind [tagD_iff])⟩
     ·exact wk
     ·exact sk
   ·refine AW.exit ?_; change AW _ _ _ _ _; refine AW.seq (AW.region (AL.ra ?_)); refine AL.nil (AW.ret (r1t ?_))
    (first | (rw [decide_eq_false (fun e => by subst e; simp_all)]; done) | (rw [decide_eq_true (by rw [List.take_of_length_le (by omega), List.take_of_length_le (by omega)] at hok; exact hok)]; done) | grind)
theorem nsameo_c (a b : OpD) : AC Tryz.prog 90 [a.av, b.av] (fun r => r = .s (AB (decide (a = b)))) := by
  refine AC.of' 78 2 Tryz.func90 rfl ?_; change AW _ _ _ _ [TK.mk 0 .off, TK.mk 0 .off]; refine AW.seq (AW.region (AL.op rfl (AOpB.op (op_box 0 rfl rfl rfl rfl rfl ?_)))); refine AL.n ?_; refine AL.op rfl (AOpB.op (op_box 1 rfl rfl rfl rfl rfl ?_)); refine AL.n ?_; refine AL.ra ?_; refine AL.nil (AW.seq (AW.region ?_)); (iterate 2 (refine AL.r (qa fo_48_0) ?_; refine AL.r (qN ag_34) ?_)); refine AL.r (rd_eq_Tag rfl rfl rfl) ?_; refine AL.rm ?_; refine AL.fk (d := 10) rfl (fun h10 => ?_) (fun h10 => ?_)
  ·refine AL.n ?_; (iterate 2 (refine AL.ro (qa fo_48_1) ?_; refine AL.ro (qN ag_34) ?_)); refine AL.ro (rd_eq_Tag rfl rfl rfl) ?_; refine AL.r qt ?_; refine AL.rm ?_; refine AL.fk (d := 17) rfl (fun h17 => ?_) (fun h17 => ?_)
   ·refine AL.n ?_; (iterate 2 (refine AL.ro (qa fo_48_2) ?_; refine AL.ro (ql ag_2) ?_)); refine AL.ro qb ?_; refine AL.r qt ?_; refine AL.rm ?_; refine AL.fk (d := 24) rfl (fun h24 => ?_) (fun h24 => ?_)
    ·refine AL.n ?_; (iterate 2 (refine AL.ro (qa fo_48_3) ?_; refine AL.ro (ql ag_9) ?_)); refine AL.ro (rd_seq rfl rfl rfl) ?_; refine AL.r qt ?_; refine AL.rm ?_; refine AL.fk (d := 31) rfl (fun h31 => ?_) (fun h31 => ?_)
     ·refine AL.n ?_; (iterate 2 (refine AL.ro (qa fo_48_4) ?_; refine AL.ro (ql ag_3) ?_)); refine AL.ro qb ?_; refine AL.r qt ?_; refine AL.rm ?_; refine AL.fk (d := 38) rfl (fun h38 => ?_) (fun h38 => ?_)
      ·refine AL.n ?_; (iterate 2 (refine AL.ro (qa fo_48_5) ?_; refine AL.ro (ql ag_9) ?_)); refine AL.ro (rd_seq rfl rfl rfl) ?_; refine AL.r qt ?_; refine AL.rm ?_; refine AL.fk (d := 45) rfl (fun h45 => ?_) (fun h45 => ?_)
       ·refine AL.n ?_; (iterate 2 (refine AL.ro (qa fo_48_6) ?_; refine AL.ro (qN ag_36) ?_)); refine AL.ro (rd_eq_Ref rfl rfl rfl) ?_; refine AL.r qt ?_; refine AL.rm ?_; refine AL.fk (d := 52) rfl (fun h52 => ?_) (fun h52 => ?_)
        ·refine AL.n ?_; (iterate 2 (refine AL.ro (qa fo_48_7) ?_; refine AL.ro (ql ag_2) ?_)); refine AL.ro qb ?_; refine AL.r qt ?_; refine AL.rm ?_; refine AL.fk (d := 59) rfl (fun h59 => ?_) (fun h59 => ?_)
         ·refine AL.n ?_; (iterate 2 (refine AL.ro (qa fo_48_8) ?_; refine AL.ro (ql ag_4) ?_)); refine AL.ro (rd_beql rfl bo_4 rfl rfl) ?_; refine AL.r qt ?_; refine AL.rm ?_; refine AL.fk (d := 66) rfl (fun h66 => ?_) (fun h66 => ?_)
          ·refine AL.n ?_; (iterate 2 (refine AL.ro (qa fo_48_9) ?_; refine AL.ro (ql ag_9) ?_)); refine AL.ro (rd_seq rfl rfl rfl) ?_; refine AL.r qt ?_; refine AL.rm ?_; refine AL.fk (d := 73) rfl (fun h73 => ?_) (fun h73 => ?_)
           ·refine AL.n ?_; (iterate 2 (refine AL.ro (qa fo_48_10) ?_; refine AL.ro (ql ag_24) ?_)); refine AL.on rfl rfl rfl (AOpB.op (op_call (nstags_c a.drops b.drops) rfl (by kernel_rfl) rfl (none) ?_)); rintro r rfl; refine AL.n ?_; refine AL.r qt ?_; refine AL.ra ?_; refine AL.nil (AW.ret (r1t ?_))
            (refine congrArg (fun b => RS.s (AB b)) ?_; rw [Bool.eq_iff_iff]; simp_all [opD_iff, tagD_iff, refD_iff] <;> (intros; simp_all))
           ·refine AL.n ?_; (iterate 5 refine AL.rf ?_); refine AL.r qf ?_; refine AL.ra ?_; refine AL.nil (AW.ret (r1t ?_))
            (refine congrArg (fun b => RS.s (AB b)) ?_; rw [Bool.eq_iff_iff]; simp_all [opD_iff, tagD_iff, refD_iff] <;> (intros; simp_all))
          ·refine AL.n ?_; (iterate 5 refine AL.rf ?_); refine AL.r qf ?_; refine AL.rm ?_; (iterate 5 refine AL.rf ?_); refine AL.r qf ?_; refine AL.ra ?_; refine AL.nil (AW.ret (r1t ?_))
           (refine congrArg (fun b => RS.s (AB b)) ?_; rw [Bool.eq_iff_iff]; simp_all [opD_iff, tagD_iff, refD_iff] <;> (intros; simp_all))
         ·refine AL.n ?_; (iterate 2 ((iterate 5 refine AL.rf ?_); refine AL.r qf ?_; refine AL.rm ?_)); (iterate 5 refine AL.rf ?_); refine AL.r qf ?_; refine AL.ra ?_; refine AL.nil (AW.ret (r1t ?_))
          (refine congrArg (fun b => RS.s (AB b)) ?_; rw [Bool.eq_iff_iff]; simp_all [opD_iff, tagD_iff, refD_iff] <;> (intros; simp_all))
        ·refine AL.n ?_; (iterate 3 ((iterate 5 refine AL.rf ?_); refine AL.r qf ?_; refine AL.rm ?_)); (iterate 5 refine AL.rf ?_); refine AL.r qf ?_; refine AL.ra ?_; refine AL.nil (AW.ret (r1t ?_))
         (refine congrArg (fun b => RS.s (AB b)) ?_; rw [Bool.eq_iff_iff]; simp_all [opD_iff, tagD_iff, refD_iff] <;> (intros; simp_all))
       ·refine AL.n ?_; (iterate 4 ((iterate 5 refine AL.rf ?_); refine AL.r qf ?_; refine AL.rm ?_)); (iterate 5 refine AL.rf ?_); refine AL.r qf ?_; refine AL.ra ?_; refine AL.nil (AW.ret (r1t ?_))
        (refine congrArg (fun b => RS.s (AB b)) ?_; rw [Bool.eq_iff_iff]; simp_all [opD_iff, tagD_iff, refD_iff] <;> (intros; simp_all))
      ·refine AL.n ?_; (iterate 5 ((iterate 5 refine AL.rf ?_); refine AL.r qf ?_; refine AL.rm ?_)); (iterate 5 refine AL.rf ?_); refine AL.r qf ?_; refine AL.ra ?_; refine AL.nil ?_
       refine AW.ret (r1t ?_)
       (refine congrArg (fun b => RS.s (AB b)) ?_; rw [Bool.eq_iff_iff]; simp_all [opD_iff, tagD_iff, refD_iff] <;> (intros; simp_all))
     ·refine AL.n ?_; (iterate 6 ((iterate 5 refine AL.rf ?_); refine AL.r qf ?_; refine AL.rm ?_)); (iterate 2 refine AL.rf ?_)
      (iterate 3 refine AL.rf ?_); refine AL.r qf ?_; refine AL.ra ?_; refine AL.nil (AW.ret (r1t ?_))
      (refine congrArg (fun b => RS.s (AB b)) ?_; rw [Bool.eq_iff_iff]; simp_all [opD_iff, tagD_iff, refD_iff] <;> (intros; simp_all))
    ·refine AL.n ?_; (iterate 6 ((iterate 5 refine AL.rf ?_); refine AL.r qf ?_; refine AL.rm ?_)); (iterate 2 refine AL.rf ?_)
     (iterate 3 refine AL.rf ?_); refine AL.r qf ?_; refine AL.rm ?_; (iterate 5 refine AL.rf ?_); refine AL.r qf ?_; refine AL.ra ?_; refine AL.nil (AW.ret (r1t ?_))
     (refine congrArg (fun b => RS.s (AB b)) ?_; rw [Bool.eq_iff_iff]; simp_all [opD_iff, tagD_iff, refD_iff] <;> (intros; simp_all))
   ·refine AL.n ?_; (iterate 6 ((iterate 5 refine AL.rf ?_); refine AL.r qf ?_; refine AL.rm ?_)); (iterate 2 refine AL.rf ?_)
    (iterate 3 refine AL.rf ?_); (iterate 2 (refine AL.r qf ?_; refine AL.rm ?_; (iterate 5 refine AL.rf ?_))); refine AL.r qf ?_; refine AL.ra ?_; refine AL.nil (AW.ret (r1t ?_))
    (refine congrArg (fun b => RS.s (AB b)) ?_; rw [Bool.eq_iff_iff]; simp_all [opD_iff, tagD_iff, refD_iff] <;> (intros; simp_all))
  ·refine AL.n ?_; (iterate 6 ((iterate 5 refine AL.rf ?_); refine AL.r qf ?_; refine AL.rm ?_)); (iterate 2 refine AL.rf ?_)
   (iterate 3 refine AL.rf ?_); (iterate 3 (refine AL.r qf ?_; refine AL.rm ?_; (iterate 5 refine AL.rf ?_))); refine AL.r qf ?_; refine AL.ra ?_; refine AL.nil (AW.ret (r1t ?_))
   (refine congrArg (fun b => RS.s (AB b)) ?_; rw [Bool.eq_iff_iff]; simp_all [opD_iff, tagD_iff, refD_iff] <;> (intros; simp_all))
theorem nsameops_c (l m : List OpD) : AC Tryz.prog 38 [.sl (l.map OpD.cs), .sl (m.map OpD.cs)] (fun x => x = .s (AB (decide (l = m)))) := by
  refine AC.of' 25 0 Tryz.func38 rfl ?_; change AW _ _ _ _ []; refine AW.seq (AW.region (AL.ra ?_)); refine AL.nil (AW.seq (AW.seq (AW.region (AL.len (x := .tmp 0) rfl (fun hlen => ?_))))); rw [List.length_map] at hlen; unfold maxLen at hlen; refine AL.rm ?_; refine AL.r (rd_len_sl rfl el_26 rfl) ?_; refine AL.rm ?_; refine AL.r (rd_len_sl rfl el_26 rfl) ?_; refine AL.r qb ?_; refine AL.nil (AW.cd rfl (fun h10 => ?_) (fun h10 => ?_))
  ·refine AW.seq (AW.region (AL.ra ?_)); refine AL.nil (AW.ret (r1t ?_)); rw [decide_eq_false (fun e => by subst e; simp at h10)]
  ·refine AW.skip (AW.seq (AW.seq (AW.region (AL.ra ?_)))); refine AL.nil (AW.block (AW.loopM (ι := Nat) [4, 11, 12, 13, 14, 15, 16, 17, 18, 19, 20, 21, 22, 23, 24, 25, 26] (fun k => [(5, AI (k : Int))]) [] (fun k => []) (fun k => k ≤ l.length ∧ l.take k = m.take k) (fun k => l.length - k) 0 (⟨by omega, rfl⟩) wk sk ?_)); rintro k gs hJ; refine AW.nm ?_
   obtain ⟨hk, hok⟩ := hJ
   refine AW.seq (AW.seq (AW.region ?_)); (iterate 2 refine AL.rm ?_); refine AL.r (rd_len_sl rfl el_26 rfl) ?_; refine AL.r qb ?_; refine AL.nil (AW.cd rfl (fun h14 => ?_) (fun h14 => ?_))
   ·refine AW.skip (AW.seq (AW.block (AW.seq (AW.draw (by kernel_rfl) ?_)))); refine AD.r 0 rfl (rd_move rfl rfl) rfl ?_; refine AD.r 1 rfl (rd_move rfl rfl) rfl ?_; refine AD.r 2 rfl (rd_iaddr_sl rfl el_26 rfl rfl rfl (get_O (by omega)) rfl) rfl ?_; refine AD.r 3 rfl (rd_loadN_ep rfl ag_48 rfl (Nat.le_of_ble_eq_true rfl) rfl) rfl ?_; refine AD.r 4 rfl (rd_move rfl rfl) rfl ?_; refine AD.r 5 rfl (rd_move rfl rfl) rfl ?_; refine AD.r 6 rfl (rd_iaddr_sl rfl el_26 rfl rfl rfl (get_O (by omega)) rfl) rfl ?_; refine AD.r 7 rfl (rd_loadN_ep rfl ag_48 rfl (Nat.le_of_ble_eq_true rfl) rfl) rfl ?_; refine AD.move 8 rfl (by kernel_rfl) rfl (op_call (nsameo_c (l[k]'(by omega)) (m[k]'(by omega))) rfl (by kernel_rfl) rfl (none) ?_); rintro r rfl; refine AD.n ?_; refine AD.r 9 rfl (rd_un rfl rfl (fun _ => rfl)) rfl ?_; refine AD.done (by kernel_rfl) ?_
    change AW _ _ _ _ _; refine AW.cd rfl (fun h26 => ?_) (fun h26 => ?_)
    ·refine AW.seq (AW.region (AL.ra ?_)); refine AL.nil (AW.ret (r1t ?_)); rw [decide_eq_false (fun e => by subst e; simp at h26)]
    ·refine AW.skip ?_; change AW _ _ _ _ _; refine AW.region ?_; refine AL.rm ?_; refine AL.r (rd_arith_add rfl rfl rfl (by first | exact IntWalk.i64_in _ (by omega) | rfl)) ?_; refine AL.ra ?_; refine AL.nil ?_; refine ⟨k + 1, ?_, by first | omega | (simp only []; omega), ?_, ?_⟩
     ·exact ⟨by omega, take_eq_next (by omega) (by omega) hok (by simpa using h26)⟩
     ·exact wk
     ·exact sk
   ·refine AW.exit ?_; change AW _ _ _ _ _; refine AW.seq (AW.region (AL.ra ?_)); refine AL.nil (AW.ret (r1t ?_)); rw [decide_eq_true (by rw [List.take_of_length_le (by omega), List.take_of_length_le (by omega)] at hok; exact hok)]
theorem nsameedges_c (l m : List EdgeD) (hs : ∀ e ∈ l, e.lens.Small) : AC Tryz.prog 37 [.sl (l.map EdgeD.cs), .sl (m.map EdgeD.cs)] (fun x => x = .s (AB (decide (l = m)))) := by
  refine AC.of' 25 0 Tryz.func37 rfl ?_; change AW _ _ _ _ []; refine AW.seq (AW.region (AL.ra ?_)); refine AL.nil (AW.seq (AW.seq (AW.region (AL.len (x := .tmp 0) rfl (fun hlen => ?_))))); rw [List.length_map] at hlen; unfold maxLen at hlen; refine AL.rm ?_; refine AL.r (rd_len_sl rfl el_25 rfl) ?_; refine AL.rm ?_; refine AL.r (rd_len_sl rfl el_25 rfl) ?_; refine AL.r qb ?_; refine AL.nil (AW.cd rfl (fun h10 => ?_) (fun h10 => ?_))
  ·refine AW.seq (AW.region (AL.ra ?_)); refine AL.nil (AW.ret (r1t ?_)); rw [decide_eq_false (fun e => by subst e; simp at h10)]
  ·refine AW.skip (AW.seq (AW.seq (AW.region (AL.ra ?_)))); refine AL.nil (AW.block (AW.loopM (ι := Nat) [4, 11, 12, 13, 14, 15, 16, 17, 18, 19, 20, 21, 22, 23, 24, 25, 26] (fun k => [(5, AI (k : Int))]) [] (fun k => []) (fun k => k ≤ l.length ∧ l.take k = m.take k) (fun k => l.length - k) 0 (⟨by omega, rfl⟩) wk sk ?_)); rintro k gs hJ; refine AW.nm ?_
   obtain ⟨hk, hok⟩ := hJ
   refine AW.seq (AW.seq (AW.region ?_)); (iterate 2 refine AL.rm ?_); refine AL.r (rd_len_sl rfl el_25 rfl) ?_; refine AL.r qb ?_; refine AL.nil (AW.cd rfl (fun h14 => ?_) (fun h14 => ?_))
   ·refine AW.skip (AW.seq (AW.block (AW.seq (AW.draw (by kernel_rfl) ?_)))); refine AD.r 0 rfl (rd_move rfl rfl) rfl ?_; refine AD.r 1 rfl (rd_move rfl rfl) rfl ?_; refine AD.r 2 rfl (rd_iaddr_sl rfl el_25 rfl rfl rfl (get_E (by omega)) rfl) rfl ?_; refine AD.r 3 rfl (rd_loadN_ep rfl ag_44 rfl (Nat.le_of_ble_eq_true rfl) rfl) rfl ?_; refine AD.r 4 rfl (rd_move rfl rfl) rfl ?_; refine AD.r 5 rfl (rd_move rfl rfl) rfl ?_; refine AD.r 6 rfl (rd_iaddr_sl rfl el_25 rfl rfl rfl (get_E (by omega)) rfl) rfl ?_; refine AD.r 7 rfl (rd_loadN_ep rfl ag_44 rfl (Nat.le_of_ble_eq_true rfl) rfl) rfl ?_; refine AD.move 8 rfl (by kernel_rfl) rfl (op_call (rtsame_c (l[k]'(by omega)) (m[k]'(by omega)) (hs _ (List.getElem_mem _))) rfl (by kernel_rfl) rfl (none) ?_); rintro r rfl; refine AD.n ?_; refine AD.r 9 rfl (rd_un rfl rfl (fun _ => rfl)) rfl ?_; refine AD.done (by kernel_rfl) ?_
    change AW _ _ _ _ _; refine AW.cd rfl (fun h26 => ?_) (fun h26 => ?_)
    ·refine AW.seq (AW.region (AL.ra ?_)); refine AL.nil (AW.ret (r1t ?_)); rw [decide_eq_false (fun e => by subst e; simp at h26)]
    ·refine AW.skip ?_; change AW _ _ _ _ _; refine AW.region ?_; refine AL.rm ?_; refine AL.r (rd_arith_add rfl rfl rfl (by first | exact IntWalk.i64_in _ (by omega) | rfl)) ?_; refine AL.ra ?_; refine AL.nil ?_; refine ⟨k + 1, ?_, by first | omega | (simp only []; omega), ?_, ?_⟩
     ·exact ⟨by omega, take_eq_next (by omega) (by omega) hok (by simpa using h26)⟩
     ·exact wk
     ·exact sk
   ·refine AW.exit ?_; change AW _ _ _ _ _; refine AW.seq (AW.region (AL.ra ?_)); refine AL.nil (AW.ret (r1t ?_)); rw [decide_eq_true (by rw [List.take_of_length_le (by omega), List.take_of_length_le (by omega)] at hok; exact hok)]
def manyB {α : Type} (p : α → Bool) (l : List α) (most : Int) : Bool := decide (most < (l.length : Int)) || l.any p
theorem manyB_f {α : Type} {p : α → Bool} {l : List α} {most : Int} (h : manyB p l most = false) : (l.length : Int) ≤ most ∧ ∀ o ∈ l, p o = false := by
  unfold manyB at h
  simp only [Bool.or_eq_false_iff, decide_eq_false_iff_not, List.any_eq_false] at h
  exact ⟨by omega, fun f hf => by have := h.2 f hf; simpa using this⟩
theorem nheavyos_c (l : List OpD) (most : Int) : AC Tryz.prog 19 [.sl (l.map OpD.cs), AI most] (fun x => x = .s (AB (manyB heavyO l most))) := by
  refine AC.of' 19 0 Tryz.func19 rfl ?_; change AW _ _ _ _ []; refine AW.seq (AW.region (AL.ra ?_)); refine AL.nil (AW.seq (AW.seq (AW.region (AL.len (x := .tmp 0) rfl (fun hlen => ?_))))); rw [List.length_map] at hlen; unfold maxLen at hlen; refine AL.rm ?_; refine AL.r (rd_len_sl rfl el_26 rfl) ?_; refine AL.rm ?_; refine AL.r qb ?_; refine AL.nil (AW.cd rfl (fun h9 => ?_) (fun h9 => ?_))
  ·refine AW.seq (AW.region (AL.ra ?_)); refine AL.nil (AW.ret (r1t ?_))
   (have : manyB heavyO l most = true := by (unfold manyB; rw [decide_eq_true (by omega)]; rfl)); rw [this]
  ·refine AW.skip (AW.seq (AW.seq (AW.region (AL.ra ?_)))); refine AL.nil (AW.block (AW.loopM (ι := Nat) [4, 10, 11, 12, 13, 14, 15, 16, 17, 18, 19, 20] (fun k => [(5, AI (k : Int))]) [] (fun k => []) (fun k => k ≤ l.length ∧ ∀ i (hi : i < l.length), i < k → heavyO l[i] = false) (fun k => l.length - k) 0 (⟨by omega, fun i _ hi => absurd hi (by omega)⟩) wk sk ?_)); rintro k gs hJ; refine AW.nm ?_
   obtain ⟨hk, hok⟩ := hJ
   refine AW.seq (AW.seq (AW.region ?_)); (iterate 2 refine AL.rm ?_); refine AL.r (rd_len_sl rfl el_26 rfl) ?_; refine AL.r qb ?_; refine AL.nil (AW.cd rfl (fun h13 => ?_) (fun h13 => ?_))
   ·refine AW.skip (AW.seq (AW.block (AW.seq (AW.region ?_)))); (iterate 2 refine AL.rm ?_); refine AL.r (rd_iaddr_sl rfl el_26 rfl rfl rfl (get_O (by omega)) rfl) ?_; refine AL.r (rd_loadN_ep rfl ag_48 rfl (Nat.le_of_ble_eq_true rfl) rfl) ?_; refine AL.op rfl (AOpB.op (op_call (oheavy_c (l[k]'(by omega))) rfl (by kernel_rfl) rfl (none) ?_)); rintro r rfl; refine AL.n ?_; refine AL.nil (AW.cd rfl (fun h20 => ?_) (fun h20 => ?_))
    ·refine AW.seq (AW.region (AL.ra ?_)); refine AL.nil (AW.ret (r1t ?_))
     (have : manyB heavyO l most = true := by (unfold manyB; rw [any_t (k := k) (by omega) (by simpa using h20)]; simp)); rw [this]
    ·refine AW.skip ?_; change AW _ _ _ _ _; refine AW.region ?_; refine AL.rm ?_; refine AL.r (rd_arith_add rfl rfl rfl (by first | exact IntWalk.i64_in _ (by omega) | rfl)) ?_; refine AL.ra ?_; refine AL.nil ?_; refine ⟨k + 1, ?_, by first | omega | (simp only []; omega), ?_, ?_⟩
     ·exact ⟨by omega, all_nextL (p := fun f => heavyO f = false) (by omega) hok (by simpa using h20)⟩
     ·exact wk
     ·exact sk
   ·refine AW.exit ?_; change AW _ _ _ _ _; refine AW.seq (AW.region (AL.ra ?_)); refine AL.nil (AW.ret (r1t ?_))
    (have : manyB heavyO l most = false := by (unfold manyB; rw [any_f (fun i hi => hok i hi (by omega)), decide_eq_false (by omega)]; rfl)); rw [this]
theorem nheavyes_c (l : List EdgeD) (most : Int) : AC Tryz.prog 18 [.sl (l.map EdgeD.cs), AI most] (fun x => x = .s (AB (manyB (fun e => heavyL e.lens) l most))) := by
  refine AC.of' 20 0 Tryz.func18 rfl ?_; change AW _ _ _ _ []; refine AW.seq (AW.region (AL.ra ?_)); refine AL.nil (AW.seq (AW.seq (AW.region (AL.len (x := .tmp 0) rfl (fun hlen => ?_))))); rw [List.length_map] at hlen; unfold maxLen at hlen; refine AL.rm ?_; refine AL.r (rd_len_sl rfl el_25 rfl) ?_; refine AL.rm ?_; refine AL.r qb ?_; refine AL.nil (AW.cd rfl (fun h9 => ?_) (fun h9 => ?_))
  ·refine AW.seq (AW.region (AL.ra ?_)); refine AL.nil (AW.ret (r1t ?_))
   (have : manyB (fun e => heavyL e.lens) l most = true := by (unfold manyB; rw [decide_eq_true (by omega)]; rfl)); rw [this]
  ·refine AW.skip (AW.seq (AW.seq (AW.region (AL.ra ?_)))); refine AL.nil (AW.block (AW.loopM (ι := Nat) [4, 10, 11, 12, 13, 14, 15, 16, 17, 18, 19, 20, 21] (fun k => [(5, AI (k : Int))]) [] (fun k => []) (fun k => k ≤ l.length ∧ ∀ i (hi : i < l.length), i < k → heavyL l[i].lens = false) (fun k => l.length - k) 0 (⟨by omega, fun i _ hi => absurd hi (by omega)⟩) wk sk ?_)); rintro k gs hJ; refine AW.nm ?_
   obtain ⟨hk, hok⟩ := hJ
   refine AW.seq (AW.seq (AW.region ?_)); (iterate 2 refine AL.rm ?_); refine AL.r (rd_len_sl rfl el_25 rfl) ?_; refine AL.r qb ?_; refine AL.nil (AW.cd rfl (fun h13 => ?_) (fun h13 => ?_))
   ·refine AW.skip (AW.seq (AW.block (AW.seq (AW.region ?_)))); (iterate 2 refine AL.rm ?_); refine AL.r (rd_iaddr_sl rfl el_25 rfl rfl rfl (get_E (by omega)) rfl) ?_; refine AL.r (rd_faddr_ep rfl fo_44_2 rfl) ?_; refine AL.r (rd_loadN_ep rfl ag_42 rfl (Nat.le_of_ble_eq_true rfl) rfl) ?_; refine AL.op rfl (AOpB.op (op_call (rheavyl_c (l[k]'(by omega)).lens) rfl (by kernel_rfl) rfl (none) ?_)); rintro r rfl; refine AL.n ?_; refine AL.nil (AW.cd rfl (fun h21 => ?_) (fun h21 => ?_))
    ·refine AW.seq (AW.region (AL.ra ?_)); refine AL.nil (AW.ret (r1t ?_))
     (have : manyB (fun e => heavyL e.lens) l most = true := by (unfold manyB; rw [any_t (k := k) (by omega) (by simpa using h21)]; simp)); rw [this]
    ·refine AW.skip ?_; change AW _ _ _ _ _; refine AW.region ?_; refine AL.rm ?_; refine AL.r (rd_arith_add rfl rfl rfl (by first | exact IntWalk.i64_in _ (by omega) | rfl)) ?_; refine AL.ra ?_; refine AL.nil ?_; refine ⟨k + 1, ?_, by first | omega | (simp only []; omega), ?_, ?_⟩
     ·exact ⟨by omega, all_nextL (p := fun f : EdgeD => heavyL f.lens = false) (by omega) hok (by simpa using h21)⟩
     ·exact wk
     ·exact sk
   ·refine AW.exit ?_; change AW _ _ _ _ _; refine AW.seq (AW.region (AL.ra ?_)); refine AL.nil (AW.ret (r1t ?_))
    (have : manyB (fun e => heavyL e.lens) l most = false := by (unfold manyB; rw [any_f (fun i hi => hok i hi (by omega)), decide_eq_false (by omega)]; rfl)); rw [this]
end Go.Proofs.YtlapcfnmmpbeeaaGreat
