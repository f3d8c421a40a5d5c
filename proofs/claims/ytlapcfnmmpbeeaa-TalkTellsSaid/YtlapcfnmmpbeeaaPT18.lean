/- A part of a proof. -/
import Derived.Test.YtlapcfnmmpbeeaaPT17
set_option linter.unusedSimpArgs false
set_option linter.unusedVariables false
namespace Go.Proofs.Ytlapcfnmmpbeeaa
set_option maxRecDepth 100000
open Go.RowKit
def kindL (x : LensD) : Bool :=
  if x.kind = 2 ∨ x.kind = 3 then rightF x.field else placeB x.at_ &&
    (if x.kind = 1 then nameB x.name else if x.kind = 4 then decide (x.at_.group ≠ []) else if x.kind = 5 then decide (x.at_.group = []) && nameB x.name
    else if x.kind = 6 ∨ x.kind = 9 then nameB x.name && nameB x.other && decide (x.name ≠ x.other) && (decide (2 ≤ x.factor) && decide (x.factor ≤ 1000))
    else if x.kind = 7 ∨ x.kind = 10 then decide (x.other.length ≤ 40) else tablesB x)
def rightL (x : LensD) : Bool := (partsL x).2 && decide (x = (partsL x).1) && kindL x
theorem rightL_f1 {x : LensD} (h : (partsL x).2 = false) : rightL x = false := by unfold rightL; rw [h]; rfl
theorem rightL_f2 {x : LensD} (h : ¬ x = (partsL x).1) : rightL x = false := by unfold rightL; rw [decide_eq_false h, Bool.and_false]; rfl
theorem rightL_t {x : LensD} (h1 : (partsL x).2 = true) (h : x = (partsL x).1) : rightL x = kindL x := by unfold rightL; rw [h1, decide_eq_true h]; rfl
theorem emp_dec (l : Bytes) : l.isEmpty = decide (l = []) := by cases l <;> simp
set_option maxHeartbeats 2000000 in
theorem lright_c (x : LensD) : AC Try.prog 66 [x.av] (fun r => r = .s (AB (rightL x))) := by
  change AC _ _ [.ag [AI x.kind, AI x.at_.scope, AS x.at_.group, AS x.at_.name, AS x.name, AS x.other, AI x.factor, AI x.field.at_.scope, AS x.field.at_.group, AS x.field.at_.name, AI x.field.kind, AS x.field.dflt, .sl (csS x.field.cases), AI x.field.worth, .sl (x.forth.map PairD.cs), .sl (x.back.map PairD.cs)]] _; refine AC.of' 87 2 Try.func66 rfl ?_; change AW _ _ _ _ [TK.mk 0 .off, TK.mk 0 .off]; refine AW.g (AL.oq (AOpB.op (oB 0 ?_))); refine AL.n ?_; refine AL.ra ?_; refine AL.nil (AW.g (AL.r (qN ag_61) ?_)); refine AL.cl (lparts_c x) ?_; refine AL.n ?_
  generalize hy : (partsL x).1 = y; rw [show y.av = AV.ag [AI y.kind, AI y.at_.scope, AS y.at_.group, AS y.at_.name, AS y.name, AS y.other, AI y.factor, AI y.field.at_.scope, AS y.field.at_.group, AS y.field.at_.name, AI y.field.kind, AS y.field.dflt, .sl (csS y.field.cases), AI y.field.worth, .sl (y.forth.map PairD.cs), .sl (y.back.map PairD.cs)] from rfl]
  refine AL.rm ?_; refine AL.r qe ?_; refine AL.r qe ?_; refine AL.oq (AOpB.op (oA 1 ze_61 ?_)); refine AL.n ?_; refine AL.oq (oS sz_61 ?_); refine AL.b ?_; refine AL.ra ?_; refine AL.nil (AW.seq (AW.g (AL.rm ?_))); refine AL.r qu ?_; refine AL.rm ?_; refine AL.fk (d := 12) rfl (fun h12 => ?_) (fun h12 => ?_)
  ·refine AL.n ?_; (iterate 4 refine AL.rf ?_); refine AL.r qt ?_; refine AL.nil (AW.cond_t rfl (AW.g (AL.ra ?_))); refine AL.nil (AW.ret (r1t ?_))
   (refine sb ?_; subst hy; first | rw [rightL_f1 h12] | rw [rightL_f2 h17])
  refine AL.n ?_; refine AL.ro (qN ag_61) ?_; refine AL.ro (qN ag_61) ?_; refine AL.on rfl rfl rfl (AOpB.op (op_call (lsame_c x y) rfl (by kernel_rfl) rfl (none) ?_)); rintro r rfl; refine AL.n ?_; refine AL.ro qu ?_; refine AL.r qf ?_; refine AL.nil (AW.cd rfl (fun h17 => ?_) (fun h17 => ?_))
  ·refine AW.g (AL.ra ?_); refine AL.nil (AW.ret (r1t ?_))
   (refine sb ?_; subst hy; first | rw [rightL_f1 h12] | rw [rightL_f2 h17])
  refine AW.skip (AW.seq (AW.g (AL.r (qa fo_61_0) ?_))); refine AL.r (ql ag_3) ?_; refine AL.r qb ?_; refine AL.rm ?_; refine AL.fk (d := 21) rfl (fun h21 => ?_) (fun h21 => ?_)
  ·refine AL.n ?_; (iterate 3 refine AL.rf ?_); refine AL.r qt ?_; refine AL.nil (AW.cond_t rfl (AW.g (AL.r (qa fo_61_5) ?_))); refine AL.r (qN ag_58) ?_; refine AL.cl (right_c x.field) ?_; refine AL.n ?_; refine AL.ra ?_; refine AL.nil (AW.ret (r1t ?_))
   (refine sb ?_; subst hy; rw [rightL_t h12 h17]; clear h12 h17; simp_all [kindL] <;> exact emp_dec _)
  refine AL.n ?_; refine AL.ro (qa fo_61_0) ?_; refine AL.ro (ql ag_3) ?_; refine AL.ro qb ?_; refine AL.r qf ?_; refine AL.nil (AW.cd rfl (fun h25 => ?_) (fun h25 => ?_))
  ·refine AW.g (AL.r (qa fo_61_5) ?_); refine AL.r (qN ag_58) ?_; refine AL.cl (right_c x.field) ?_; refine AL.n ?_; refine AL.ra ?_; refine AL.nil (AW.ret (r1t ?_))
   (refine sb ?_; subst hy; rw [rightL_t h12 h17]; clear h12 h17; simp_all [kindL] <;> exact emp_dec _)
  refine AW.skip (AW.seq (AW.g (AL.r (qa fo_61_1) ?_))); refine AL.r (qN ag_55) ?_; refine AL.cl (place_c x.at_) ?_; refine AL.n ?_; refine AL.r qu ?_; refine AL.nil (AW.cd rfl (fun h32 => ?_) (fun h32 => ?_))
  ·refine AW.g (AL.ra ?_); refine AL.nil (AW.ret (r1t ?_))
   (refine sb ?_; subst hy; rw [rightL_t h12 h17]; clear h12 h17; simp_all [kindL] <;> exact emp_dec _)
  refine AW.skip (AW.seq (AW.g (AL.r (qa fo_61_0) ?_))); refine AL.r (ql ag_3) ?_; refine AL.nil (AW.block (AW.g (AL.r qb ?_))); refine AL.ra ?_; refine AL.nil (AW.cd rfl (fun h35 => ?_) (fun h35 => ?_))
  ·refine AW.g (AL.r (qa fo_61_2) ?_); refine AL.r (ql ag_9) ?_; refine AL.cl (name_c x.name) ?_; refine AL.n ?_; refine AL.ra ?_; refine AL.nil (AW.ret (r1t ?_))
   (refine sb ?_; subst hy; rw [rightL_t h12 h17]; clear h12 h17; simp_all [kindL] <;> exact emp_dec _)
  refine AW.g (AL.r qb ?_); refine AL.ra ?_; refine AL.nil (AW.cd rfl (fun h40 => ?_) (fun h40 => ?_))
  ·refine AW.g (AL.r (qa fo_61_1) ?_); refine AL.r (qa fo_55_1) ?_; refine AL.r (ql ag_9) ?_; refine AL.r (rd_sne rfl rfl rfl) ?_; refine AL.ra ?_; refine AL.nil (AW.ret (r1t ?_))
   (refine sb ?_; subst hy; rw [rightL_t h12 h17]; clear h12 h17; simp_all [kindL] <;> exact emp_dec _)
  refine AW.g (AL.r qb ?_); refine AL.ra ?_; refine AL.nil (AW.cd rfl (fun h46 => ?_) (fun h46 => ?_))
  ·refine AW.g (AL.r (qa fo_61_1) ?_); refine AL.r (qa fo_55_1) ?_; refine AL.r (ql ag_9) ?_; refine AL.r (rd_seq rfl rfl rfl) ?_; refine AL.rm ?_; refine AL.fk (d := 52) rfl (fun h52 => ?_) (fun h52 => ?_)
   ·refine AL.n ?_; refine AL.ro (qa fo_61_2) ?_; refine AL.ro (ql ag_9) ?_; refine AL.on rfl rfl rfl (AOpB.op (op_call (name_c x.name) rfl (by kernel_rfl) rfl (none) ?_)); rintro r rfl; refine AL.n ?_; refine AL.r qt ?_; refine AL.ra ?_; refine AL.nil (AW.ret (r1t ?_))
    (refine sb ?_; subst hy; rw [rightL_t h12 h17]; clear h12 h17; simp_all [kindL] <;> exact emp_dec _)
   refine AL.n ?_; (iterate 3 refine AL.rf ?_); refine AL.r qf ?_; refine AL.ra ?_; refine AL.nil (AW.ret (r1t ?_))
   (refine sb ?_; subst hy; rw [rightL_t h12 h17]; clear h12 h17; simp_all [kindL] <;> exact emp_dec _)
  refine AW.seq (AW.g (AL.r qb ?_)); refine AL.ra ?_; refine AL.nil (AW.cd rfl (fun h57 => ?_) (fun h57 => ?_))
  ·refine AW.skip (AW.cd rfl (fun h57 => ?_) (fun h57 => ?_))
   ·refine AW.g (AL.r (qa fo_61_2) ?_); refine AL.r (ql ag_9) ?_; refine AL.cl (name_c x.name) ?_; refine AL.n ?_; refine AL.rm ?_; refine AL.fk (d := 63) rfl (fun h63 => ?_) (fun h63 => ?_)
    ·refine AL.n ?_; refine AL.ro (qa fo_61_3) ?_; refine AL.ro (ql ag_9) ?_; refine AL.on rfl rfl rfl (AOpB.op (op_call (name_c x.other) rfl (by kernel_rfl) rfl (none) ?_)); rintro r rfl; refine AL.n ?_; refine AL.r qt ?_; refine AL.rm ?_; refine AL.fk (d := 68) rfl (fun h68 => ?_) (fun h68 => ?_)
     ·refine AL.n ?_; refine AL.ro (qa fo_61_2) ?_; refine AL.ro (ql ag_9) ?_; refine AL.ro (qa fo_61_3) ?_; refine AL.ro (ql ag_9) ?_; refine AL.ro (rd_sne rfl rfl rfl) ?_; refine AL.r qt ?_; refine AL.rm ?_; refine AL.fk (d := 75) rfl (fun h75 => ?_) (fun h75 => ?_)
      ·refine AL.n ?_; refine AL.ro (qa fo_61_4) ?_; refine AL.ro (ql ag_2) ?_; refine AL.on rfl rfl rfl (AOpB.op (op_call (factor_c x.factor) rfl (by kernel_rfl) rfl (none) ?_)); rintro r rfl; refine AL.n ?_; refine AL.r qt ?_; refine AL.ra ?_; refine AL.nil (AW.ret (r1t ?_))
       (refine sb ?_; subst hy; rw [rightL_t h12 h17]; clear h12 h17; simp_all [kindL] <;> exact emp_dec _)
      refine AL.n ?_; (iterate 3 refine AL.rf ?_); refine AL.r qf ?_; refine AL.ra ?_; refine AL.nil (AW.ret (r1t ?_))
      (refine sb ?_; subst hy; rw [rightL_t h12 h17]; clear h12 h17; simp_all [kindL] <;> exact emp_dec _)
     refine AL.n ?_; (iterate 5 refine AL.rf ?_); refine AL.r qf ?_; refine AL.rm ?_; (iterate 3 refine AL.rf ?_); refine AL.r qf ?_; refine AL.ra ?_; refine AL.nil (AW.ret (r1t ?_))
     (refine sb ?_; subst hy; rw [rightL_t h12 h17]; clear h12 h17; simp_all [kindL] <;> exact emp_dec _)
    refine AL.n ?_; (iterate 3 refine AL.rf ?_); refine AL.r qf ?_; refine AL.rm ?_; (iterate 5 refine AL.rf ?_); refine AL.r qf ?_; refine AL.rm ?_; (iterate 3 refine AL.rf ?_); refine AL.r qf ?_; refine AL.ra ?_; refine AL.nil (AW.ret (r1t ?_))
    (refine sb ?_; subst hy; rw [rightL_t h12 h17]; clear h12 h17; simp_all [kindL] <;> exact emp_dec _)
   refine AW.seq (AW.g (AL.r qb ?_)); refine AL.ra ?_; refine AL.nil (AW.cd rfl (fun h80 => ?_) (fun h80 => ?_))
   ·refine AW.skip (AW.cd rfl (fun h80 => ?_) (fun h80 => ?_))
    ·refine AW.g (AL.r (qa fo_61_3) ?_); refine AL.r (ql ag_9) ?_; refine AL.cl (text_c x.other) ?_; refine AL.n ?_; refine AL.ra ?_; refine AL.nil (AW.ret (r1t ?_))
     (refine sb ?_; subst hy; rw [rightL_t h12 h17]; clear h12 h17; simp_all [kindL] <;> exact emp_dec _)
    refine AW.skip (AW.g (AL.r (qN ag_61) ?_)); refine AL.cl (rtables_c x) ?_; refine AL.n ?_; refine AL.ra ?_; refine AL.nil (AW.ret (r1t ?_))
    (refine sb ?_; subst hy; rw [rightL_t h12 h17]; clear h12 h17; simp_all [kindL] <;> exact emp_dec _)
   refine AW.region (AL.r qb ?_); refine AL.ra ?_; refine AL.nil (AW.cd rfl (fun h80 => ?_) (fun h80 => ?_))
   ·refine AW.g (AL.r (qa fo_61_3) ?_); refine AL.r (ql ag_9) ?_; refine AL.cl (text_c x.other) ?_; refine AL.n ?_; refine AL.ra ?_; refine AL.nil (AW.ret (r1t ?_))
    (refine sb ?_; subst hy; rw [rightL_t h12 h17]; clear h12 h17; simp_all [kindL] <;> exact emp_dec _)
   refine AW.skip (AW.g (AL.r (qN ag_61) ?_)); refine AL.cl (rtables_c x) ?_; refine AL.n ?_; refine AL.ra ?_; refine AL.nil (AW.ret (r1t ?_))
   (refine sb ?_; subst hy; rw [rightL_t h12 h17]; clear h12 h17; simp_all [kindL] <;> exact emp_dec _)
  refine AW.region (AL.r qb ?_); refine AL.ra ?_; refine AL.nil (AW.cd rfl (fun h57 => ?_) (fun h57 => ?_))
  ·refine AW.g (AL.r (qa fo_61_2) ?_); refine AL.r (ql ag_9) ?_; refine AL.cl (name_c x.name) ?_; refine AL.n ?_; refine AL.rm ?_; refine AL.fk (d := 63) rfl (fun h63 => ?_) (fun h63 => ?_)
   ·refine AL.n ?_; refine AL.ro (qa fo_61_3) ?_; refine AL.ro (ql ag_9) ?_; refine AL.on rfl rfl rfl (AOpB.op (op_call (name_c x.other) rfl (by kernel_rfl) rfl (none) ?_)); rintro r rfl; refine AL.n ?_; refine AL.r qt ?_; refine AL.rm ?_; refine AL.fk (d := 68) rfl (fun h68 => ?_) (fun h68 => ?_)
    ·refine AL.n ?_; refine AL.ro (qa fo_61_2) ?_; refine AL.ro (ql ag_9) ?_; refine AL.ro (qa fo_61_3) ?_; refine AL.ro (ql ag_9) ?_; refine AL.ro (rd_sne rfl rfl rfl) ?_; refine AL.r qt ?_; refine AL.rm ?_; refine AL.fk (d := 75) rfl (fun h75 => ?_) (fun h75 => ?_)
     ·refine AL.n ?_; refine AL.ro (qa fo_61_4) ?_; refine AL.ro (ql ag_2) ?_; refine AL.on rfl rfl rfl (AOpB.op (op_call (factor_c x.factor) rfl (by kernel_rfl) rfl (none) ?_)); rintro r rfl; refine AL.n ?_; refine AL.r qt ?_; refine AL.ra ?_; refine AL.nil (AW.ret (r1t ?_))
      (refine sb ?_; subst hy; rw [rightL_t h12 h17]; clear h12 h17; simp_all [kindL] <;> exact emp_dec _)
     refine AL.n ?_; (iterate 3 refine AL.rf ?_); refine AL.r qf ?_; refine AL.ra ?_; refine AL.nil (AW.ret (r1t ?_))
     (refine sb ?_; subst hy; rw [rightL_t h12 h17]; clear h12 h17; simp_all [kindL] <;> exact emp_dec _)
    refine AL.n ?_; (iterate 5 refine AL.rf ?_); refine AL.r qf ?_; refine AL.rm ?_; (iterate 3 refine AL.rf ?_); refine AL.r qf ?_; refine AL.ra ?_; refine AL.nil (AW.ret (r1t ?_))
    (refine sb ?_; subst hy; rw [rightL_t h12 h17]; clear h12 h17; simp_all [kindL] <;> exact emp_dec _)
   refine AL.n ?_; (iterate 3 refine AL.rf ?_); refine AL.r qf ?_; refine AL.rm ?_; (iterate 5 refine AL.rf ?_); refine AL.r qf ?_; refine AL.rm ?_; (iterate 3 refine AL.rf ?_); refine AL.r qf ?_; refine AL.ra ?_; refine AL.nil (AW.ret (r1t ?_))
   (refine sb ?_; subst hy; rw [rightL_t h12 h17]; clear h12 h17; simp_all [kindL] <;> exact emp_dec _)
  refine AW.seq (AW.g (AL.r qb ?_)); refine AL.ra ?_; refine AL.nil (AW.cd rfl (fun h80 => ?_) (fun h80 => ?_))
  ·refine AW.skip (AW.cd rfl (fun h80 => ?_) (fun h80 => ?_))
   ·refine AW.g (AL.r (qa fo_61_3) ?_); refine AL.r (ql ag_9) ?_; refine AL.cl (text_c x.other) ?_; refine AL.n ?_; refine AL.ra ?_; refine AL.nil (AW.ret (r1t ?_))
    (refine sb ?_; subst hy; rw [rightL_t h12 h17]; clear h12 h17; simp_all [kindL] <;> exact emp_dec _)
   refine AW.skip (AW.g (AL.r (qN ag_61) ?_)); refine AL.cl (rtables_c x) ?_; refine AL.n ?_; refine AL.ra ?_; refine AL.nil (AW.ret (r1t ?_))
   (refine sb ?_; subst hy; rw [rightL_t h12 h17]; clear h12 h17; simp_all [kindL] <;> exact emp_dec _)
  refine AW.region (AL.r qb ?_); refine AL.ra ?_; refine AL.nil (AW.cd rfl (fun h80 => ?_) (fun h80 => ?_))
  ·refine AW.g (AL.r (qa fo_61_3) ?_); refine AL.r (ql ag_9) ?_; refine AL.cl (text_c x.other) ?_; refine AL.n ?_; refine AL.ra ?_; refine AL.nil (AW.ret (r1t ?_))
   (refine sb ?_; subst hy; rw [rightL_t h12 h17]; clear h12 h17; simp_all [kindL] <;> exact emp_dec _)
  refine AW.skip (AW.g (AL.r (qN ag_61) ?_)); refine AL.cl (rtables_c x) ?_; refine AL.n ?_; refine AL.ra ?_; refine AL.nil (AW.ret (r1t ?_))
  (refine sb ?_; subst hy; rw [rightL_t h12 h17]; clear h12 h17; simp_all [kindL] <;> exact emp_dec _)
end Go.Proofs.Ytlapcfnmmpbeeaa
