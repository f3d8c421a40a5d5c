/- Texts of the proof of talkPacks_holds, put together by a program: LenE LenF. -/
import Derived.Test.YtlapcfnmmpbeeaaGreatPP23
set_option linter.unusedSimpArgs false
set_option linter.unusedVariables false
namespace Go.Proofs.YtlapcfnmmpbeeaaGreat
set_option maxRecDepth 100000
open Go.RowKit
theorem lensD_iff (a b : LensD) : a = b ↔ a.kind = b.kind ∧ a.at_ = b.at_ ∧ a.name = b.name ∧ a.other = b.other ∧ a.factor = b.factor ∧ a.field = b.field ∧ a.forth = b.forth ∧ a.back = b.back := by
  cases a; cases b; simp
theorem lsame_c (a b : LensD) : AC Tryz.prog 88 [a.av, b.av] (fun r => r = .s (AB (decide (a = b)))) := by
  refine AC.of' 57 2 Tryz.func88 rfl ?_; change AW _ _ _ _ [TK.mk 0 .off, TK.mk 0 .off]; refine AW.seq (AW.region (AL.op rfl (AOpB.op (op_box 0 rfl rfl rfl rfl rfl ?_)))); refine AL.n ?_; refine AL.op rfl (AOpB.op (op_box 1 rfl rfl rfl rfl rfl ?_)); refine AL.n ?_; refine AL.ra ?_; refine AL.nil (AW.seq (AW.region ?_)); (iterate 2 (refine AL.r (qa fo_42_0) ?_; refine AL.r (ql ag_3) ?_)); refine AL.r qb ?_; refine AL.rm ?_; refine AL.fk (d := 10) rfl (fun h10 => ?_) (fun h10 => ?_)
  ·refine AL.n ?_; (iterate 2 (refine AL.ro (qa fo_42_1) ?_; refine AL.ro (qN ag_36) ?_)); refine AL.ro (rd_eq_Ref rfl rfl rfl) ?_; refine AL.r qt ?_; refine AL.rm ?_; refine AL.fk (d := 17) rfl (fun h17 => ?_) (fun h17 => ?_)
   ·refine AL.n ?_; (iterate 2 (refine AL.ro (qa fo_42_2) ?_; refine AL.ro (ql ag_9) ?_)); refine AL.ro (rd_seq rfl rfl rfl) ?_; refine AL.r qt ?_; refine AL.rm ?_; refine AL.fk (d := 24) rfl (fun h24 => ?_) (fun h24 => ?_)
    ·refine AL.n ?_; (iterate 2 (refine AL.ro (qa fo_42_3) ?_; refine AL.ro (ql ag_9) ?_)); refine AL.ro (rd_seq rfl rfl rfl) ?_; refine AL.r qt ?_; refine AL.rm ?_; refine AL.fk (d := 31) rfl (fun h31 => ?_) (fun h31 => ?_)
     ·refine AL.n ?_; (iterate 2 (refine AL.ro (qa fo_42_4) ?_; refine AL.ro (ql ag_2) ?_)); refine AL.ro qb ?_; refine AL.r qt ?_; refine AL.rm ?_; refine AL.fk (d := 38) rfl (fun h38 => ?_) (fun h38 => ?_)
      ·refine AL.n ?_; (iterate 2 (refine AL.ro (qa fo_42_5) ?_; refine AL.ro (qN ag_39) ?_)); refine AL.on rfl rfl rfl (AOpB.op (op_call (same_c a.field b.field) rfl (by kernel_rfl) rfl (none) ?_)); rintro r rfl; refine AL.n ?_; refine AL.r qt ?_; refine AL.rm ?_; refine AL.fk (d := 45) rfl (fun h45 => ?_) (fun h45 => ?_)
       ·refine AL.n ?_; (iterate 2 (refine AL.ro (qa fo_42_6) ?_; refine AL.ro (ql ag_40) ?_)); refine AL.on rfl rfl rfl (AOpB.op (op_call (spairs_c a.forth b.forth) rfl (by kernel_rfl) rfl (none) ?_)); rintro r rfl; refine AL.n ?_; refine AL.r qt ?_; refine AL.rm ?_; refine AL.fk (d := 52) rfl (fun h52 => ?_) (fun h52 => ?_)
        ·refine AL.n ?_; (iterate 2 (refine AL.ro (qa fo_42_7) ?_; refine AL.ro (ql ag_40) ?_)); refine AL.on rfl rfl rfl (AOpB.op (op_call (spairs_c a.back b.back) rfl (by kernel_rfl) rfl (none) ?_)); rintro r rfl; refine AL.n ?_; refine AL.r qt ?_; refine AL.ra ?_; refine AL.nil (AW.ret (r1t ?_))
         (refine congrArg (fun b => RS.s (AB b)) ?_; rw [Bool.eq_iff_iff]; simp_all [lensD_iff, refD_iff] <;> (intros; simp_all))
        ·refine AL.n ?_; (iterate 5 refine AL.rf ?_); refine AL.r qf ?_; refine AL.ra ?_; refine AL.nil (AW.ret (r1t ?_))
         (refine congrArg (fun b => RS.s (AB b)) ?_; rw [Bool.eq_iff_iff]; simp_all [lensD_iff, refD_iff] <;> (intros; simp_all))
       ·refine AL.n ?_; (iterate 5 refine AL.rf ?_); refine AL.r qf ?_; refine AL.rm ?_; (iterate 5 refine AL.rf ?_); refine AL.r qf ?_; refine AL.ra ?_; refine AL.nil (AW.ret (r1t ?_))
        (refine congrArg (fun b => RS.s (AB b)) ?_; rw [Bool.eq_iff_iff]; simp_all [lensD_iff, refD_iff] <;> (intros; simp_all))
      ·refine AL.n ?_; (iterate 2 ((iterate 5 refine AL.rf ?_); refine AL.r qf ?_; refine AL.rm ?_)); (iterate 5 refine AL.rf ?_); refine AL.r qf ?_; refine AL.ra ?_; refine AL.nil (AW.ret (r1t ?_))
       (refine congrArg (fun b => RS.s (AB b)) ?_; rw [Bool.eq_iff_iff]; simp_all [lensD_iff, refD_iff] <;> (intros; simp_all))
     ·refine AL.n ?_; (iterate 3 ((iterate 5 refine AL.rf ?_); refine AL.r qf ?_; refine AL.rm ?_)); (iterate 5 refine AL.rf ?_); refine AL.r qf ?_; refine AL.ra ?_; refine AL.nil (AW.ret (r1t ?_))
      (refine congrArg (fun b => RS.s (AB b)) ?_; rw [Bool.eq_iff_iff]; simp_all [lensD_iff, refD_iff] <;> (intros; simp_all))
    ·refine AL.n ?_; (iterate 4 ((iterate 5 refine AL.rf ?_); refine AL.r qf ?_; refine AL.rm ?_)); (iterate 5 refine AL.rf ?_); refine AL.r qf ?_; refine AL.ra ?_; refine AL.nil (AW.ret (r1t ?_))
     (refine congrArg (fun b => RS.s (AB b)) ?_; rw [Bool.eq_iff_iff]; simp_all [lensD_iff, refD_iff] <;> (intros; simp_all))
   ·refine AL.n ?_; (iterate 5 ((iterate 5 refine AL.rf ?_); refine AL.r qf ?_; refine AL.rm ?_)); (iterate 5 refine AL.rf ?_); refine AL.r qf ?_; refine AL.ra ?_; refine AL.nil ?_
    refine AW.ret (r1t ?_)
    (refine congrArg (fun b => RS.s (AB b)) ?_; rw [Bool.eq_iff_iff]; simp_all [lensD_iff, refD_iff] <;> (intros; simp_all))
  ·refine AL.n ?_; (iterate 6 ((iterate 5 refine AL.rf ?_); refine AL.r qf ?_; refine AL.rm ?_)); (iterate 2 refine AL.rf ?_)
   (iterate 3 refine AL.rf ?_); refine AL.r qf ?_; refine AL.ra ?_; refine AL.nil (AW.ret (r1t ?_))
   (refine congrArg (fun b => RS.s (AB b)) ?_; rw [Bool.eq_iff_iff]; simp_all [lensD_iff, refD_iff] <;> (intros; simp_all))
set_option maxRecDepth 100000
def tablesB (x : LensD) : Bool := nameB x.name && tabB x.forth x.back && tabB x.back x.forth && decide (caseP x.forth x.name = (x.other, true)) && decide (caseP x.back x.other = (x.name, true))
theorem rtables_c (x : LensD) : AC Tryz.prog 126 [x.av] (fun r => r = .s (AB (tablesB x))) := by
  refine AC.of' 56 1 Tryz.func126 rfl ?_; change AW _ _ _ _ [TK.mk 0 .off]; refine AW.seq (AW.region (AL.op rfl (AOpB.op (op_box 0 rfl rfl rfl rfl rfl ?_)))); refine AL.n ?_; refine AL.ra ?_; refine AL.nil (AW.seq (AW.seq (AW.region (AL.r (qa fo_42_2) ?_)))); refine AL.r (ql ag_9) ?_; refine AL.op rfl (AOpB.op (op_call (name_c x.name) rfl (by kernel_rfl) rfl (none) ?_)); rintro r rfl; refine AL.n ?_; refine AL.r (rd_un rfl rfl (fun _ => rfl)) ?_; refine AL.rm ?_; refine AL.fk (d := 10) rfl (fun h10 => ?_) (fun h10 => ?_)
  ·refine AL.n ?_; (iterate 6 refine AL.rf ?_); refine AL.r qt ?_; refine AL.rm ?_; (iterate 6 refine AL.rf ?_); refine AL.r qt ?_; refine AL.nil (AW.cond_t rfl (AW.seq (AW.region (AL.ra ?_)))); refine AL.nil (AW.ret (r1t ?_))
   (refine congrArg (fun b => RS.s (AB b)) ?_; rw [Bool.eq_iff_iff]; simp_all [tablesB, Prod.ext_iff])
  ·refine AL.n ?_; refine AL.ro (qa fo_42_6) ?_; refine AL.ro (ql ag_40) ?_; refine AL.ro (qa fo_42_7) ?_; refine AL.ro (ql ag_40) ?_; refine AL.on rfl rfl rfl (AOpB.op (op_call (rtable_c x.forth x.back) rfl (by kernel_rfl) rfl (none) ?_)); rintro r rfl; refine AL.n ?_; refine AL.ro (rd_un rfl rfl (fun _ => rfl)) ?_; refine AL.r qf ?_; refine AL.rm ?_; refine AL.fk (d := 18) rfl (fun h18 => ?_) (fun h18 => ?_)
   ·refine AL.n ?_; (iterate 6 refine AL.rf ?_); refine AL.r qt ?_; refine AL.nil (AW.cond_t rfl (AW.seq (AW.region (AL.ra ?_)))); refine AL.nil (AW.ret (r1t ?_))
    (refine congrArg (fun b => RS.s (AB b)) ?_; rw [Bool.eq_iff_iff]; simp_all [tablesB, Prod.ext_iff])
   ·refine AL.n ?_; refine AL.ro (qa fo_42_7) ?_; refine AL.ro (ql ag_40) ?_; refine AL.ro (qa fo_42_6) ?_; refine AL.ro (ql ag_40) ?_; refine AL.on rfl rfl rfl (AOpB.op (op_call (rtable_c x.back x.forth) rfl (by kernel_rfl) rfl (none) ?_)); rintro r rfl; refine AL.n ?_; refine AL.ro (rd_un rfl rfl (fun _ => rfl)) ?_; refine AL.r qf ?_; refine AL.nil (AW.cd rfl (fun h25 => ?_) (fun h25 => ?_))
    ·refine AW.seq (AW.region (AL.ra ?_)); refine AL.nil (AW.ret (r1t ?_))
     (refine congrArg (fun b => RS.s (AB b)) ?_; rw [Bool.eq_iff_iff]; simp_all [tablesB, Prod.ext_iff])
    ·refine AW.skip (AW.seq (AW.region (AL.r (qa fo_42_6) ?_))); refine AL.r (ql ag_40) ?_; refine AL.r (qa fo_42_2) ?_; refine AL.r (ql ag_9) ?_; refine AL.op rfl (AOpB.op (op_call (case_c x.forth x.name) rfl (by kernel_rfl) rfl (none) ?_)); rintro r rfl; refine AL.n ?_; refine AL.rm ?_; refine AL.r (rd_extract rfl rfl rfl) ?_; refine AL.r (rd_extract rfl rfl rfl) ?_; (iterate 2 refine AL.ra ?_); refine AL.nil (AW.seq (AW.seq (AW.region (AL.rm ?_)))); refine AL.r (rd_un rfl rfl (fun _ => rfl)) ?_; refine AL.rm ?_; refine AL.fk (d := 36) rfl (fun h36 => ?_) (fun h36 => ?_)
     ·refine AL.n ?_; (iterate 4 refine AL.rf ?_); refine AL.r qt ?_; refine AL.nil (AW.cond_t rfl (AW.seq (AW.region (AL.ra ?_)))); refine AL.nil (AW.ret (r1t ?_))
      (refine congrArg (fun b => RS.s (AB b)) ?_; rw [Bool.eq_iff_iff]; simp_all [tablesB, Prod.ext_iff])
     ·refine AL.n ?_; refine AL.ro (rd_move rfl rfl) ?_; refine AL.ro (qa fo_42_3) ?_; refine AL.ro (ql ag_9) ?_; refine AL.ro (rd_sne rfl rfl rfl) ?_; refine AL.r qf ?_; refine AL.nil (AW.cd rfl (fun h41 => ?_) (fun h41 => ?_))
      ·refine AW.seq (AW.region (AL.ra ?_)); refine AL.nil (AW.ret (r1t ?_))
       (refine congrArg (fun b => RS.s (AB b)) ?_; rw [Bool.eq_iff_iff]; simp_all [tablesB, Prod.ext_iff])
      ·refine AW.skip (AW.seq (AW.region (AL.r (qa fo_42_7) ?_))); refine AL.r (ql ag_40) ?_; refine AL.r (qa fo_42_3) ?_; refine AL.r (ql ag_9) ?_; refine AL.op rfl (AOpB.op (op_call (case_c x.back x.other) rfl (by kernel_rfl) rfl (none) ?_)); rintro r rfl; refine AL.n ?_; refine AL.rm ?_; refine AL.r (rd_extract rfl rfl rfl) ?_; refine AL.r (rd_extract rfl rfl rfl) ?_; (iterate 2 refine AL.ra ?_); refine AL.nil (AW.seq (AW.region ?_)); (iterate 2 refine AL.rm ?_); refine AL.fk (d := 51) rfl (fun h51 => ?_) (fun h51 => ?_)
       ·refine AL.n ?_; refine AL.ro (rd_move rfl rfl) ?_; refine AL.ro (qa fo_42_2) ?_; refine AL.ro (ql ag_9) ?_; refine AL.ro (rd_seq rfl rfl rfl) ?_; refine AL.r qt ?_; refine AL.ra ?_; refine AL.nil (AW.ret (r1t ?_))
        (refine congrArg (fun b => RS.s (AB b)) ?_; rw [Bool.eq_iff_iff]; simp_all [tablesB, Prod.ext_iff])
       ·refine AL.n ?_; (iterate 4 refine AL.rf ?_); refine AL.r qf ?_; refine AL.ra ?_; refine AL.nil (AW.ret (r1t ?_))
        (refine congrArg (fun b => RS.s (AB b)) ?_; rw [Bool.eq_iff_iff]; simp_all [tablesB, Prod.ext_iff])
theorem rtabs_c (x : LensD) : AC Tryz.prog 127 [x.av] (fun r => r = .s (AB (decide (x.forth ≠ []) || decide (x.back ≠ [])))) := by
  refine AC.of' 12 1 Tryz.func127 rfl ?_; change AW _ _ _ _ [TK.mk 0 .off]; refine AW.seq (AW.region (AL.op rfl (AOpB.op (op_box 0 rfl rfl rfl rfl rfl ?_)))); refine AL.n ?_; refine AL.ra ?_; refine AL.nil (AW.seq (AW.region (AL.r (qa fo_42_6) ?_))); refine AL.r (ql ag_40) ?_; refine AL.r (rd_len_sl rfl el_40 rfl) ?_; refine AL.r qb ?_; refine AL.rm ?_; refine AL.fk (d := 7) rfl (fun h7 => ?_) (fun h7 => ?_)
  ·refine AL.n ?_; (iterate 4 refine AL.rf ?_); refine AL.r qt ?_; refine AL.ra ?_; refine AL.nil (AW.ret (r1t ?_))
   (refine congrArg (fun b => RS.s (AB b)) ?_; rw [Bool.eq_iff_iff]; simp_all [List.length_pos_iff])
  ·refine AL.n ?_; refine AL.ro (qa fo_42_7) ?_; refine AL.ro (ql ag_40) ?_; refine AL.ro (rd_len_sl rfl el_40 rfl) ?_; refine AL.ro qb ?_; refine AL.r qf ?_; refine AL.ra ?_; refine AL.nil (AW.ret (r1t ?_))
   (refine congrArg (fun b => RS.s (AB b)) ?_; rw [Bool.eq_iff_iff]; simp_all [List.length_pos_iff])
end Go.Proofs.YtlapcfnmmpbeeaaGreat
