/- A part of a proof. -/
import Derived.Test.YtlapcfnmmpbeeaaPT16
set_option linter.unusedSimpArgs false
set_option linter.unusedVariables false
namespace Go.Proofs.Ytlapcfnmmpbeeaa
set_option maxRecDepth 100000
open Go.RowKit
theorem lensD_iff (a b : LensD) : a = b ↔ a.kind = b.kind ∧ a.at_ = b.at_ ∧ a.name = b.name ∧ a.other = b.other ∧ a.factor = b.factor ∧ a.field = b.field ∧ a.forth = b.forth ∧ a.back = b.back := by
  cases a; cases b; simp
theorem nl4 {a b : Bool} (h : a = b := by rw [Bool.eq_iff_iff]; simp_all [lensD_iff, refD_iff] <;> (intros; simp_all)) : RS.s (AB a) = RS.s (AB b) := sb h
theorem lsame_c (a b : LensD) : AC Try.prog 83 [a.av, b.av] (fun r => r = .s (AB (decide (a = b)))) := by
  refine AC.of' 57 2 Try.func83 rfl ?_; change AW _ _ _ _ [TK.mk 0 .off, TK.mk 0 .off]; refine AW.g (AL.oq (AOpB.op (oB 0 ?_))); refine AL.n ?_; refine AL.oq (AOpB.op (oB 1 ?_)); refine AL.n ?_; refine AL.ra ?_; refine AL.nil (AW.g ?_); (iterate 2 (refine AL.r (qa fo_61_0) ?_; refine AL.r (ql ag_3) ?_)); refine AL.r qb ?_; refine AL.rm ?_; refine AL.fk (d := 10) rfl (fun h10 => ?_) (fun h10 => ?_)
  ·refine AL.n ?_; (iterate 2 (refine AL.ro (qa fo_61_1) ?_; refine AL.ro (qN ag_55) ?_)); refine AL.ro (rd_eq_Ref rfl rfl rfl) ?_; refine AL.r qt ?_; refine AL.rm ?_; refine AL.fk (d := 17) rfl (fun h17 => ?_) (fun h17 => ?_)
   ·refine AL.n ?_; (iterate 2 (refine AL.ro (qa fo_61_2) ?_; refine AL.ro (ql ag_9) ?_)); refine AL.ro (rd_seq rfl rfl rfl) ?_; refine AL.r qt ?_; refine AL.rm ?_; refine AL.fk (d := 24) rfl (fun h24 => ?_) (fun h24 => ?_)
    ·refine AL.n ?_; (iterate 2 (refine AL.ro (qa fo_61_3) ?_; refine AL.ro (ql ag_9) ?_)); refine AL.ro (rd_seq rfl rfl rfl) ?_; refine AL.r qt ?_; refine AL.rm ?_; refine AL.fk (d := 31) rfl (fun h31 => ?_) (fun h31 => ?_)
     ·refine AL.n ?_; (iterate 2 (refine AL.ro (qa fo_61_4) ?_; refine AL.ro (ql ag_2) ?_)); refine AL.ro qb ?_; refine AL.r qt ?_; refine AL.rm ?_; refine AL.fk (d := 38) rfl (fun h38 => ?_) (fun h38 => ?_)
      ·refine AL.n ?_; (iterate 2 (refine AL.ro (qa fo_61_5) ?_; refine AL.ro (qN ag_58) ?_)); refine AL.on rfl rfl rfl (AOpB.op (op_call (same_c a.field b.field) rfl (by kernel_rfl) rfl (none) ?_)); rintro r rfl; refine AL.n ?_; refine AL.r qt ?_; refine AL.rm ?_; refine AL.fk (d := 45) rfl (fun h45 => ?_) (fun h45 => ?_)
       ·refine AL.n ?_; (iterate 2 (refine AL.ro (qa fo_61_6) ?_; refine AL.ro (ql ag_59) ?_)); refine AL.on rfl rfl rfl (AOpB.op (op_call (spairs_c a.forth b.forth) rfl (by kernel_rfl) rfl (none) ?_)); rintro r rfl; refine AL.n ?_; refine AL.r qt ?_; refine AL.rm ?_; refine AL.fk (d := 52) rfl (fun h52 => ?_) (fun h52 => ?_)
        ·refine AL.n ?_; (iterate 2 (refine AL.ro (qa fo_61_7) ?_; refine AL.ro (ql ag_59) ?_)); refine AL.on rfl rfl rfl (AOpB.op (op_call (spairs_c a.back b.back) rfl (by kernel_rfl) rfl (none) ?_)); rintro r rfl; refine AL.n ?_; refine AL.r qt ?_; refine AL.ra ?_; refine AL.nil (AW.ret (r1t ?_)); exact nl4
        refine AL.n ?_; (iterate 5 refine AL.rf ?_); refine AL.r qf ?_; refine AL.ra ?_; refine AL.nil (AW.ret (r1t ?_)); exact nl4
       refine AL.n ?_; (iterate 5 refine AL.rf ?_); refine AL.r qf ?_; refine AL.rm ?_; (iterate 5 refine AL.rf ?_); refine AL.r qf ?_; refine AL.ra ?_; refine AL.nil (AW.ret (r1t ?_)); exact nl4
      refine AL.n ?_; (iterate 2 ((iterate 5 refine AL.rf ?_); refine AL.r qf ?_; refine AL.rm ?_)); (iterate 5 refine AL.rf ?_); refine AL.r qf ?_; refine AL.ra ?_; refine AL.nil (AW.ret (r1t ?_)); exact nl4
     refine AL.n ?_; (iterate 3 ((iterate 5 refine AL.rf ?_); refine AL.r qf ?_; refine AL.rm ?_)); (iterate 5 refine AL.rf ?_); refine AL.r qf ?_; refine AL.ra ?_; refine AL.nil (AW.ret (r1t ?_)); exact nl4
    refine AL.n ?_; (iterate 4 ((iterate 5 refine AL.rf ?_); refine AL.r qf ?_; refine AL.rm ?_)); (iterate 5 refine AL.rf ?_); refine AL.r qf ?_; refine AL.ra ?_; refine AL.nil (AW.ret (r1t ?_)); exact nl4
   refine AL.n ?_; (iterate 5 ((iterate 5 refine AL.rf ?_); refine AL.r qf ?_; refine AL.rm ?_)); (iterate 5 refine AL.rf ?_); refine AL.r qf ?_; refine AL.ra ?_; refine AL.nil (AW.ret (r1t ?_)); exact nl4
  refine AL.n ?_; (iterate 6 ((iterate 5 refine AL.rf ?_); refine AL.r qf ?_; refine AL.rm ?_)); (iterate 2 refine AL.rf ?_)
  (iterate 3 refine AL.rf ?_); refine AL.r qf ?_; refine AL.ra ?_; refine AL.nil (AW.ret (r1t ?_))
  exact nl4
set_option maxRecDepth 100000
def tablesB (x : LensD) : Bool := nameB x.name && tabB x.forth x.back && tabB x.back x.forth && decide (caseP x.forth x.name = (x.other, true)) && decide (caseP x.back x.other = (x.name, true))
theorem nl5 {a b : Bool} (h : a = b := by rw [Bool.eq_iff_iff]; simp_all [tablesB, Prod.ext_iff]) : RS.s (AB a) = RS.s (AB b) := sb h
theorem rtables_c (x : LensD) : AC Try.prog 86 [x.av] (fun r => r = .s (AB (tablesB x))) := by
  refine AC.of' 56 1 Try.func86 rfl ?_; change AW _ _ _ _ [TK.mk 0 .off]; refine AW.g (AL.oq (AOpB.op (oB 0 ?_))); refine AL.n ?_; refine AL.ra ?_; refine AL.nil (AW.seq (AW.g (AL.r (qa fo_61_2) ?_))); refine AL.r (ql ag_9) ?_; refine AL.cl (name_c x.name) ?_; refine AL.n ?_; refine AL.r qu ?_; refine AL.rm ?_; refine AL.fk (d := 10) rfl (fun h10 => ?_) (fun h10 => ?_)
  ·refine AL.n ?_; (iterate 6 refine AL.rf ?_); refine AL.r qt ?_; refine AL.rm ?_; (iterate 6 refine AL.rf ?_); refine AL.r qt ?_; refine AL.nil (AW.cond_t rfl (AW.g (AL.ra ?_))); refine AL.nil (AW.ret (r1t ?_)); exact nl5
  refine AL.n ?_; refine AL.ro (qa fo_61_6) ?_; refine AL.ro (ql ag_59) ?_; refine AL.ro (qa fo_61_7) ?_; refine AL.ro (ql ag_59) ?_; refine AL.on rfl rfl rfl (AOpB.op (op_call (rtable_c x.forth x.back) rfl (by kernel_rfl) rfl (none) ?_)); rintro r rfl; refine AL.n ?_; refine AL.ro qu ?_; refine AL.r qf ?_; refine AL.rm ?_; refine AL.fk (d := 18) rfl (fun h18 => ?_) (fun h18 => ?_)
  ·refine AL.n ?_; (iterate 6 refine AL.rf ?_); refine AL.r qt ?_; refine AL.nil (AW.cond_t rfl (AW.g (AL.ra ?_))); refine AL.nil (AW.ret (r1t ?_)); exact nl5
  refine AL.n ?_; refine AL.ro (qa fo_61_7) ?_; refine AL.ro (ql ag_59) ?_; refine AL.ro (qa fo_61_6) ?_; refine AL.ro (ql ag_59) ?_; refine AL.on rfl rfl rfl (AOpB.op (op_call (rtable_c x.back x.forth) rfl (by kernel_rfl) rfl (none) ?_)); rintro r rfl; refine AL.n ?_; refine AL.ro qu ?_; refine AL.r qf ?_; refine AL.nil (AW.cd rfl (fun h25 => ?_) (fun h25 => ?_))
  ·refine AW.g (AL.ra ?_); refine AL.nil (AW.ret (r1t ?_)); exact nl5
  refine AW.skip (AW.g (AL.r (qa fo_61_6) ?_)); refine AL.r (ql ag_59) ?_; refine AL.r (qa fo_61_2) ?_; refine AL.r (ql ag_9) ?_; refine AL.cl (case_c x.forth x.name) ?_; refine AL.n ?_; refine AL.rm ?_; refine AL.r qe ?_; refine AL.r qe ?_; (iterate 2 refine AL.ra ?_); refine AL.nil (AW.seq (AW.g (AL.rm ?_))); refine AL.r qu ?_; refine AL.rm ?_; refine AL.fk (d := 36) rfl (fun h36 => ?_) (fun h36 => ?_)
  ·refine AL.n ?_; (iterate 4 refine AL.rf ?_); refine AL.r qt ?_; refine AL.nil (AW.cond_t rfl (AW.g (AL.ra ?_))); refine AL.nil (AW.ret (r1t ?_)); exact nl5
  refine AL.n ?_; refine AL.ro (rd_move rfl rfl) ?_; refine AL.ro (qa fo_61_3) ?_; refine AL.ro (ql ag_9) ?_; refine AL.ro (rd_sne rfl rfl rfl) ?_; refine AL.r qf ?_; refine AL.nil (AW.cd rfl (fun h41 => ?_) (fun h41 => ?_))
  ·refine AW.g (AL.ra ?_); refine AL.nil (AW.ret (r1t ?_)); exact nl5
  refine AW.skip (AW.g (AL.r (qa fo_61_7) ?_)); refine AL.r (ql ag_59) ?_; refine AL.r (qa fo_61_3) ?_; refine AL.r (ql ag_9) ?_; refine AL.cl (case_c x.back x.other) ?_; refine AL.n ?_; refine AL.rm ?_; refine AL.r qe ?_; refine AL.r qe ?_; (iterate 2 refine AL.ra ?_); refine AL.nil (AW.g ?_); (iterate 2 refine AL.rm ?_); refine AL.fk (d := 51) rfl (fun h51 => ?_) (fun h51 => ?_)
  ·refine AL.n ?_; refine AL.ro (rd_move rfl rfl) ?_; refine AL.ro (qa fo_61_2) ?_; refine AL.ro (ql ag_9) ?_; refine AL.ro (rd_seq rfl rfl rfl) ?_; refine AL.r qt ?_; refine AL.ra ?_; refine AL.nil (AW.ret (r1t ?_)); exact nl5
  refine AL.n ?_; (iterate 4 refine AL.rf ?_); refine AL.r qf ?_; refine AL.ra ?_; refine AL.nil (AW.ret (r1t ?_)); exact nl5
end Go.Proofs.Ytlapcfnmmpbeeaa
