/- A part of a proof. -/
import Derived.Test.YtlapcfnmmpbeeaaGreatPO26
set_option linter.unusedSimpArgs false
set_option linter.unusedVariables false
namespace Go.Proofs.YtlapcfnmmpbeeaaGreat
set_option maxRecDepth 100000
open Go.RowKit
theorem jCd (a b : LensD) : a = b ↔ a.kind = b.kind ∧ a.at_ = b.at_ ∧ a.name = b.name ∧ a.other = b.other ∧ a.factor = b.factor ∧ a.field = b.field ∧ a.forth = b.forth ∧ a.back = b.back := by
  cases a; cases b; simp
theorem nl2 {a b : Bool} (h : a = b := by rw [Bool.eq_iff_iff]; simp_all [jCd, jDF] <;> (intros; simp_all)) : RS.s (AB a) = RS.s (AB b) := sb h
theorem jMg (a b : LensD) : AC Tryz.prog 88 [a.av, b.av] (fun r => r = .s (AB (decide (a = b)))) := by
  refine AC.of' 57 2 Tryz.func88 rfl ?_; change AW _ _ _ _ [TK.mk 0 .off, TK.mk 0 .off]; refine AW.g (AL.oq (AOpB.op (oB 0 ?_))); refine AL.n ?_; refine AL.oq (AOpB.op (oB 1 ?_)); refine AL.n ?_; refine AL.ra ?_; refine AL.nil (AW.g ?_); (iterate 2 (refine AL.r (qa jBf) ?_; refine AL.r (ql ag_3) ?_)); refine AL.r qb ?_; refine AL.rm ?_; refine AL.fk (d := 10) rfl (fun h10 => ?_) (fun h10 => ?_)
  ·refine AL.n ?_; (iterate 2 (refine AL.ro (qa jAh) ?_; refine AL.ro (qN jBa) ?_)); refine AL.ro (jCW rfl rfl rfl) ?_; refine AL.r qt ?_; refine AL.rm ?_; refine AL.fk (d := 17) rfl (fun h17 => ?_) (fun h17 => ?_)
   ·refine AL.n ?_; (iterate 2 (refine AL.ro (qa jAt) ?_; refine AL.ro (ql ag_9) ?_)); refine AL.ro (jBi rfl rfl rfl) ?_; refine AL.r qt ?_; refine AL.rm ?_; refine AL.fk (d := 24) rfl (fun h24 => ?_) (fun h24 => ?_)
    ·refine AL.n ?_; (iterate 2 (refine AL.ro (qa jAg) ?_; refine AL.ro (ql ag_9) ?_)); refine AL.ro (jBi rfl rfl rfl) ?_; refine AL.r qt ?_; refine AL.rm ?_; refine AL.fk (d := 31) rfl (fun h31 => ?_) (fun h31 => ?_)
     ·refine AL.n ?_; (iterate 2 (refine AL.ro (qa jBm) ?_; refine AL.ro (ql ag_2) ?_)); refine AL.ro qb ?_; refine AL.r qt ?_; refine AL.rm ?_; refine AL.fk (d := 38) rfl (fun h38 => ?_) (fun h38 => ?_)
      ·refine AL.n ?_; (iterate 2 (refine AL.ro (qa jB6) ?_; refine AL.ro (qN jCq) ?_)); refine AL.on rfl rfl rfl (AOpB.op (jAb (same_c a.field b.field) rfl (by kernel_rfl) rfl (none) ?_)); rintro r rfl; refine AL.n ?_; refine AL.r qt ?_; refine AL.rm ?_; refine AL.fk (d := 45) rfl (fun h45 => ?_) (fun h45 => ?_)
       ·refine AL.n ?_; (iterate 2 (refine AL.ro (qa jAS) ?_; refine AL.ro (ql jBG) ?_)); refine AL.on rfl rfl rfl (AOpB.op (jAb (jKZ a.forth b.forth) rfl (by kernel_rfl) rfl (none) ?_)); rintro r rfl; refine AL.n ?_; refine AL.r qt ?_; refine AL.rm ?_; refine AL.fk (d := 52) rfl (fun h52 => ?_) (fun h52 => ?_)
        ·refine AL.n ?_; (iterate 2 (refine AL.ro (qa jAT) ?_; refine AL.ro (ql jBG) ?_)); refine AL.on rfl rfl rfl (AOpB.op (jAb (jKZ a.back b.back) rfl (by kernel_rfl) rfl (none) ?_)); rintro r rfl; refine AL.n ?_; refine AL.r qt ?_; refine AL.ra ?_; refine AL.nil (AW.ret (r1t ?_)); exact nl2
        refine AL.n ?_; (iterate 5 refine AL.rf ?_); refine AL.r qf ?_; refine AL.ra ?_; refine AL.nil (AW.ret (r1t ?_)); exact nl2
       refine AL.n ?_; (iterate 5 refine AL.rf ?_); refine AL.r qf ?_; refine AL.rm ?_; (iterate 5 refine AL.rf ?_); refine AL.r qf ?_; refine AL.ra ?_; refine AL.nil (AW.ret (r1t ?_)); exact nl2
      refine AL.n ?_; (iterate 2 ((iterate 5 refine AL.rf ?_); refine AL.r qf ?_; refine AL.rm ?_)); (iterate 5 refine AL.rf ?_); refine AL.r qf ?_; refine AL.ra ?_; refine AL.nil (AW.ret (r1t ?_)); exact nl2
     refine AL.n ?_; (iterate 3 ((iterate 5 refine AL.rf ?_); refine AL.r qf ?_; refine AL.rm ?_)); (iterate 5 refine AL.rf ?_); refine AL.r qf ?_; refine AL.ra ?_; refine AL.nil (AW.ret (r1t ?_)); exact nl2
    refine AL.n ?_; (iterate 4 ((iterate 5 refine AL.rf ?_); refine AL.r qf ?_; refine AL.rm ?_)); (iterate 5 refine AL.rf ?_); refine AL.r qf ?_; refine AL.ra ?_; refine AL.nil (AW.ret (r1t ?_)); exact nl2
   refine AL.n ?_; (iterate 5 ((iterate 5 refine AL.rf ?_); refine AL.r qf ?_; refine AL.rm ?_)); (iterate 5 refine AL.rf ?_); refine AL.r qf ?_; refine AL.ra ?_; refine AL.nil (AW.ret (r1t ?_)); exact nl2
  refine AL.n ?_; (iterate 6 ((iterate 5 refine AL.rf ?_); refine AL.r qf ?_; refine AL.rm ?_)); (iterate 2 refine AL.rf ?_)
  (iterate 3 refine AL.rf ?_); refine AL.r qf ?_; refine AL.ra ?_; refine AL.nil (AW.ret (r1t ?_))
  exact nl2
set_option maxRecDepth 100000
def jHC (x : LensD) : Bool := jBB x.name && tabB x.forth x.back && tabB x.back x.forth && decide (jD8 x.forth x.name = (x.other, true)) && decide (jD8 x.back x.other = (x.name, true))
theorem nl3 {a b : Bool} (h : a = b := by rw [Bool.eq_iff_iff]; simp_all [jHC, Prod.ext_iff]) : RS.s (AB a) = RS.s (AB b) := sb h
theorem jF2 (x : LensD) : AC Tryz.prog 126 [x.av] (fun r => r = .s (AB (jHC x))) := by
  refine AC.of' 56 1 Tryz.func126 rfl ?_; change AW _ _ _ _ [TK.mk 0 .off]; refine AW.g (AL.oq (AOpB.op (oB 0 ?_))); refine AL.n ?_; refine AL.ra ?_; refine AL.nil (AW.seq (AW.g (AL.r (qa jAt) ?_))); refine AL.r (ql ag_9) ?_; refine AL.cl (jDM x.name) ?_; refine AL.n ?_; refine AL.r qu ?_; refine AL.rm ?_; refine AL.fk (d := 10) rfl (fun h10 => ?_) (fun h10 => ?_)
  ·refine AL.n ?_; (iterate 6 refine AL.rf ?_); refine AL.r qt ?_; refine AL.rm ?_; (iterate 6 refine AL.rf ?_); refine AL.r qt ?_; refine AL.nil (AW.cond_t rfl (AW.g (AL.ra ?_))); refine AL.nil (AW.ret (r1t ?_)); exact nl3
  refine AL.n ?_; refine AL.ro (qa jAS) ?_; refine AL.ro (ql jBG) ?_; refine AL.ro (qa jAT) ?_; refine AL.ro (ql jBG) ?_; refine AL.on rfl rfl rfl (AOpB.op (jAb (jKz x.forth x.back) rfl (by kernel_rfl) rfl (none) ?_)); rintro r rfl; refine AL.n ?_; refine AL.ro qu ?_; refine AL.r qf ?_; refine AL.rm ?_; refine AL.fk (d := 18) rfl (fun h18 => ?_) (fun h18 => ?_)
  ·refine AL.n ?_; (iterate 6 refine AL.rf ?_); refine AL.r qt ?_; refine AL.nil (AW.cond_t rfl (AW.g (AL.ra ?_))); refine AL.nil (AW.ret (r1t ?_)); exact nl3
  refine AL.n ?_; refine AL.ro (qa jAT) ?_; refine AL.ro (ql jBG) ?_; refine AL.ro (qa jAS) ?_; refine AL.ro (ql jBG) ?_; refine AL.on rfl rfl rfl (AOpB.op (jAb (jKz x.back x.forth) rfl (by kernel_rfl) rfl (none) ?_)); rintro r rfl; refine AL.n ?_; refine AL.ro qu ?_; refine AL.r qf ?_; refine AL.nil (AW.cd rfl (fun h25 => ?_) (fun h25 => ?_))
  ·refine AW.g (AL.ra ?_); refine AL.nil (AW.ret (r1t ?_)); exact nl3
  refine AW.skip (AW.g (AL.r (qa jAS) ?_)); refine AL.r (ql jBG) ?_; refine AL.r (qa jAt) ?_; refine AL.r (ql ag_9) ?_; refine AL.cl (jMb x.forth x.name) ?_; refine AL.n ?_; refine AL.rm ?_; refine AL.r qe ?_; refine AL.r qe ?_; (iterate 2 refine AL.ra ?_); refine AL.nil (AW.seq (AW.g (AL.rm ?_))); refine AL.r qu ?_; refine AL.rm ?_; refine AL.fk (d := 36) rfl (fun h36 => ?_) (fun h36 => ?_)
  ·refine AL.n ?_; (iterate 4 refine AL.rf ?_); refine AL.r qt ?_; refine AL.nil (AW.cond_t rfl (AW.g (AL.ra ?_))); refine AL.nil (AW.ret (r1t ?_)); exact nl3
  refine AL.n ?_; refine AL.ro (jAa rfl rfl) ?_; refine AL.ro (qa jAg) ?_; refine AL.ro (ql ag_9) ?_; refine AL.ro (jEc rfl rfl rfl) ?_; refine AL.r qf ?_; refine AL.nil (AW.cd rfl (fun h41 => ?_) (fun h41 => ?_))
  ·refine AW.g (AL.ra ?_); refine AL.nil (AW.ret (r1t ?_)); exact nl3
  refine AW.skip (AW.g (AL.r (qa jAT) ?_)); refine AL.r (ql jBG) ?_; refine AL.r (qa jAg) ?_; refine AL.r (ql ag_9) ?_; refine AL.cl (jMb x.back x.other) ?_; refine AL.n ?_; refine AL.rm ?_; refine AL.r qe ?_; refine AL.r qe ?_; (iterate 2 refine AL.ra ?_); refine AL.nil (AW.g ?_); (iterate 2 refine AL.rm ?_); refine AL.fk (d := 51) rfl (fun h51 => ?_) (fun h51 => ?_)
  ·refine AL.n ?_; refine AL.ro (jAa rfl rfl) ?_; refine AL.ro (qa jAt) ?_; refine AL.ro (ql ag_9) ?_; refine AL.ro (jBi rfl rfl rfl) ?_; refine AL.r qt ?_; refine AL.ra ?_; refine AL.nil (AW.ret (r1t ?_)); exact nl3
  refine AL.n ?_; (iterate 4 refine AL.rf ?_); refine AL.r qf ?_; refine AL.ra ?_; refine AL.nil (AW.ret (r1t ?_)); exact nl3
theorem rtabs_c (x : LensD) : AC Tryz.prog 127 [x.av] (fun r => r = .s (AB (decide (x.forth ≠ []) || decide (x.back ≠ [])))) := by
  refine AC.of' 12 1 Tryz.func127 rfl ?_; change AW _ _ _ _ [TK.mk 0 .off]; refine AW.g (AL.oq (AOpB.op (oB 0 ?_))); refine AL.n ?_; refine AL.ra ?_; refine AL.nil (AW.g (AL.r (qa jAS) ?_)); refine AL.r (ql jBG) ?_; refine AL.r (lN jCu) ?_; refine AL.r qb ?_; refine AL.rm ?_; refine AL.fk (d := 7) rfl (fun h7 => ?_) (fun h7 => ?_)
  ·refine AL.n ?_; (iterate 4 refine AL.rf ?_); refine AL.r qt ?_; refine AL.ra ?_; refine AL.nil (AW.ret (r1t ?_))
   (refine sb ?_; rw [Bool.eq_iff_iff]; simp_all [List.length_pos_iff])
  refine AL.n ?_; refine AL.ro (qa jAT) ?_; refine AL.ro (ql jBG) ?_; refine AL.ro (lN jCu) ?_; refine AL.ro qb ?_; refine AL.r qf ?_; refine AL.ra ?_; refine AL.nil (AW.ret (r1t ?_))
  (refine sb ?_; rw [Bool.eq_iff_iff]; simp_all [List.length_pos_iff])
set_option maxRecDepth 100000
def jDo (x : LensD) : Bool :=
  if x.kind = 2 ∨ x.kind = 3 then jBk x.field else jCl x.at_ &&
    (if x.kind = 1 then jBB x.name else if x.kind = 4 then decide (x.at_.group ≠ []) else if x.kind = 5 then decide (x.at_.group = []) && jBB x.name
    else if x.kind = 6 ∨ x.kind = 9 then jBB x.name && jBB x.other && decide (x.name ≠ x.other) && (decide (2 ≤ x.factor) && decide (x.factor ≤ 1000))
    else if x.kind = 7 ∨ x.kind = 10 then decide (x.other.length ≤ 40) else jHC x)
def jB2 (x : LensD) : Bool := (jAD x).2 && decide (x = (jAD x).1) && jDo x
theorem jJi {x : LensD} (h : (jAD x).2 = false) : jB2 x = false := by unfold jB2; rw [h]; rfl
theorem jIK {x : LensD} (h : ¬ x = (jAD x).1) : jB2 x = false := by unfold jB2; rw [decide_eq_false h, Bool.and_false]; rfl
theorem jBp {x : LensD} (h1 : (jAD x).2 = true) (h : x = (jAD x).1) : jB2 x = jDo x := by unfold jB2; rw [h1, decide_eq_true h]; rfl
theorem jBK (l : jAU) : l.isEmpty = decide (l = []) := by cases l <;> simp
set_option maxHeartbeats 2000000 in
theorem jF0 (x : LensD) : AC Tryz.prog 74 [x.av] (fun r => r = .s (AB (jB2 x))) := by
  change AC _ _ [.ag [AI x.kind, AI x.at_.scope, AS x.at_.group, AS x.at_.name, AS x.name, AS x.other, AI x.factor, AI x.field.at_.scope, AS x.field.at_.group, AS x.field.at_.name, AI x.field.kind, AS x.field.dflt, .sl (csS x.field.cases), AI x.field.worth, .sl (x.forth.map PairD.cs), .sl (x.back.map PairD.cs)]] _; refine AC.of' 87 2 Tryz.func74 rfl ?_; change AW _ _ _ _ [TK.mk 0 .off, TK.mk 0 .off]; refine AW.g (AL.oq (AOpB.op (oB 0 ?_))); refine AL.n ?_; refine AL.ra ?_; refine AL.nil (AW.g (AL.r (qN jAn) ?_)); refine AL.cl (lparts_c x) ?_; refine AL.n ?_
  generalize hy : (jAD x).1 = y; rw [show y.av = AV.ag [AI y.kind, AI y.at_.scope, AS y.at_.group, AS y.at_.name, AS y.name, AS y.other, AI y.factor, AI y.field.at_.scope, AS y.field.at_.group, AS y.field.at_.name, AI y.field.kind, AS y.field.dflt, .sl (csS y.field.cases), AI y.field.worth, .sl (y.forth.map PairD.cs), .sl (y.back.map PairD.cs)] from rfl]
  refine AL.rm ?_; refine AL.r qe ?_; refine AL.r qe ?_; refine AL.oq (AOpB.op (oA 1 jBx ?_)); refine AL.n ?_; refine AL.oq (oS jAL ?_); refine AL.b ?_; refine AL.ra ?_; refine AL.nil (AW.seq (AW.g (AL.rm ?_))); refine AL.r qu ?_; refine AL.rm ?_; refine AL.fk (d := 12) rfl (fun h12 => ?_) (fun h12 => ?_)
  ·refine AL.n ?_; (iterate 4 refine AL.rf ?_); refine AL.r qt ?_; refine AL.nil (AW.cond_t rfl (AW.g (AL.ra ?_))); refine AL.nil (AW.ret (r1t ?_))
   (refine sb ?_; subst hy; first | rw [jJi h12] | rw [jIK h17])
  refine AL.n ?_; refine AL.ro (qN jAn) ?_; refine AL.ro (qN jAn) ?_; refine AL.on rfl rfl rfl (AOpB.op (jAb (jMg x y) rfl (by kernel_rfl) rfl (none) ?_)); rintro r rfl; refine AL.n ?_; refine AL.ro qu ?_; refine AL.r qf ?_; refine AL.nil (AW.cd rfl (fun h17 => ?_) (fun h17 => ?_))
  ·refine AW.g (AL.ra ?_); refine AL.nil (AW.ret (r1t ?_))
   (refine sb ?_; subst hy; first | rw [jJi h12] | rw [jIK h17])
  refine AW.skip (AW.seq (AW.g (AL.r (qa jBf) ?_))); refine AL.r (ql ag_3) ?_; refine AL.r qb ?_; refine AL.rm ?_; refine AL.fk (d := 21) rfl (fun h21 => ?_) (fun h21 => ?_)
  ·refine AL.n ?_; (iterate 3 refine AL.rf ?_); refine AL.r qt ?_; refine AL.nil (AW.cond_t rfl (AW.g (AL.r (qa jB6) ?_))); refine AL.r (qN jCq) ?_; refine AL.cl (jJu x.field) ?_; refine AL.n ?_; refine AL.ra ?_; refine AL.nil (AW.ret (r1t ?_))
   (refine sb ?_; subst hy; rw [jBp h12 h17]; clear h12 h17; simp_all [jDo] <;> exact jBK _)
  refine AL.n ?_; refine AL.ro (qa jBf) ?_; refine AL.ro (ql ag_3) ?_; refine AL.ro qb ?_; refine AL.r qf ?_; refine AL.nil (AW.cd rfl (fun h25 => ?_) (fun h25 => ?_))
  ·refine AW.g (AL.r (qa jB6) ?_); refine AL.r (qN jCq) ?_; refine AL.cl (jJu x.field) ?_; refine AL.n ?_; refine AL.ra ?_; refine AL.nil (AW.ret (r1t ?_))
   (refine sb ?_; subst hy; rw [jBp h12 h17]; clear h12 h17; simp_all [jDo] <;> exact jBK _)
  refine AW.skip (AW.seq (AW.g (AL.r (qa jAh) ?_))); refine AL.r (qN jBa) ?_; refine AL.cl (jJE x.at_) ?_; refine AL.n ?_; refine AL.r qu ?_; refine AL.nil (AW.cd rfl (fun h32 => ?_) (fun h32 => ?_))
  ·refine AW.g (AL.ra ?_); refine AL.nil (AW.ret (r1t ?_))
   (refine sb ?_; subst hy; rw [jBp h12 h17]; clear h12 h17; simp_all [jDo] <;> exact jBK _)
  refine AW.skip (AW.seq (AW.g (AL.r (qa jBf) ?_))); refine AL.r (ql ag_3) ?_; refine AL.nil (AW.block (AW.g (AL.r qb ?_))); refine AL.ra ?_; refine AL.nil (AW.cd rfl (fun h35 => ?_) (fun h35 => ?_))
  ·refine AW.g (AL.r (qa jAt) ?_); refine AL.r (ql ag_9) ?_; refine AL.cl (jDM x.name) ?_; refine AL.n ?_; refine AL.ra ?_; refine AL.nil (AW.ret (r1t ?_))
   (refine sb ?_; subst hy; rw [jBp h12 h17]; clear h12 h17; simp_all [jDo] <;> exact jBK _)
  refine AW.g (AL.r qb ?_); refine AL.ra ?_; refine AL.nil (AW.cd rfl (fun h40 => ?_) (fun h40 => ?_))
  ·refine AW.g (AL.r (qa jAh) ?_); refine AL.r (qa jC1) ?_; refine AL.r (ql ag_9) ?_; refine AL.r (jEc rfl rfl rfl) ?_; refine AL.ra ?_; refine AL.nil (AW.ret (r1t ?_))
   (refine sb ?_; subst hy; rw [jBp h12 h17]; clear h12 h17; simp_all [jDo] <;> exact jBK _)
  refine AW.g (AL.r qb ?_); refine AL.ra ?_; refine AL.nil (AW.cd rfl (fun h46 => ?_) (fun h46 => ?_))
  ·refine AW.g (AL.r (qa jAh) ?_); refine AL.r (qa jC1) ?_; refine AL.r (ql ag_9) ?_; refine AL.r (jBi rfl rfl rfl) ?_; refine AL.rm ?_; refine AL.fk (d := 52) rfl (fun h52 => ?_) (fun h52 => ?_)
   ·refine AL.n ?_; refine AL.ro (qa jAt) ?_; refine AL.ro (ql ag_9) ?_; refine AL.on rfl rfl rfl (AOpB.op (jAb (jDM x.name) rfl (by kernel_rfl) rfl (none) ?_)); rintro r rfl; refine AL.n ?_; refine AL.r qt ?_; refine AL.ra ?_; refine AL.nil (AW.ret (r1t ?_))
    (refine sb ?_; subst hy; rw [jBp h12 h17]; clear h12 h17; simp_all [jDo] <;> exact jBK _)
   refine AL.n ?_; (iterate 3 refine AL.rf ?_); refine AL.r qf ?_; refine AL.ra ?_; refine AL.nil (AW.ret (r1t ?_))
   (refine sb ?_; subst hy; rw [jBp h12 h17]; clear h12 h17; simp_all [jDo] <;> exact jBK _)
  refine AW.seq (AW.g (AL.r qb ?_)); refine AL.ra ?_; refine AL.nil (AW.cd rfl (fun h57 => ?_) (fun h57 => ?_))
  ·refine AW.skip (AW.cd rfl (fun h57 => ?_) (fun h57 => ?_))
   ·refine AW.g (AL.r (qa jAt) ?_); refine AL.r (ql ag_9) ?_; refine AL.cl (jDM x.name) ?_; refine AL.n ?_; refine AL.rm ?_; refine AL.fk (d := 63) rfl (fun h63 => ?_) (fun h63 => ?_)
    ·refine AL.n ?_; refine AL.ro (qa jAg) ?_; refine AL.ro (ql ag_9) ?_; refine AL.on rfl rfl rfl (AOpB.op (jAb (jDM x.other) rfl (by kernel_rfl) rfl (none) ?_)); rintro r rfl; refine AL.n ?_; refine AL.r qt ?_; refine AL.rm ?_; refine AL.fk (d := 68) rfl (fun h68 => ?_) (fun h68 => ?_)
     ·refine AL.n ?_; refine AL.ro (qa jAt) ?_; refine AL.ro (ql ag_9) ?_; refine AL.ro (qa jAg) ?_; refine AL.ro (ql ag_9) ?_; refine AL.ro (jEc rfl rfl rfl) ?_; refine AL.r qt ?_; refine AL.rm ?_; refine AL.fk (d := 75) rfl (fun h75 => ?_) (fun h75 => ?_)
      ·refine AL.n ?_; refine AL.ro (qa jBm) ?_; refine AL.ro (ql ag_2) ?_; refine AL.on rfl rfl rfl (AOpB.op (jAb (jJ1 x.factor) rfl (by kernel_rfl) rfl (none) ?_)); rintro r rfl; refine AL.n ?_; refine AL.r qt ?_; refine AL.ra ?_; refine AL.nil (AW.ret (r1t ?_))
       (refine sb ?_; subst hy; rw [jBp h12 h17]; clear h12 h17; simp_all [jDo] <;> exact jBK _)
      refine AL.n ?_; (iterate 3 refine AL.rf ?_); refine AL.r qf ?_; refine AL.ra ?_; refine AL.nil (AW.ret (r1t ?_))
      (refine sb ?_; subst hy; rw [jBp h12 h17]; clear h12 h17; simp_all [jDo] <;> exact jBK _)
     refine AL.n ?_; (iterate 5 refine AL.rf ?_); refine AL.r qf ?_; refine AL.rm ?_; (iterate 3 refine AL.rf ?_); refine AL.r qf ?_; refine AL.ra ?_; refine AL.nil (AW.ret (r1t ?_))
     (refine sb ?_; subst hy; rw [jBp h12 h17]; clear h12 h17; simp_all [jDo] <;> exact jBK _)
    refine AL.n ?_; (iterate 3 refine AL.rf ?_); refine AL.r qf ?_; refine AL.rm ?_; (iterate 5 refine AL.rf ?_); refine AL.r qf ?_; refine AL.rm ?_; (iterate 3 refine AL.rf ?_); refine AL.r qf ?_; refine AL.ra ?_; refine AL.nil (AW.ret (r1t ?_))
    (refine sb ?_; subst hy; rw [jBp h12 h17]; clear h12 h17; simp_all [jDo] <;> exact jBK _)
   refine AW.seq (AW.g (AL.r qb ?_)); refine AL.ra ?_; refine AL.nil (AW.cd rfl (fun h80 => ?_) (fun h80 => ?_))
   ·refine AW.skip (AW.cd rfl (fun h80 => ?_) (fun h80 => ?_))
    ·refine AW.g (AL.r (qa jAg) ?_); refine AL.r (ql ag_9) ?_; refine AL.cl (jHs x.other) ?_; refine AL.n ?_; refine AL.ra ?_; refine AL.nil (AW.ret (r1t ?_))
     (refine sb ?_; subst hy; rw [jBp h12 h17]; clear h12 h17; simp_all [jDo] <;> exact jBK _)
    refine AW.skip (AW.g (AL.r (qN jAn) ?_)); refine AL.cl (jF2 x) ?_; refine AL.n ?_; refine AL.ra ?_; refine AL.nil (AW.ret (r1t ?_))
    (refine sb ?_; subst hy; rw [jBp h12 h17]; clear h12 h17; simp_all [jDo] <;> exact jBK _)
   refine AW.region (AL.r qb ?_); refine AL.ra ?_; refine AL.nil (AW.cd rfl (fun h80 => ?_) (fun h80 => ?_))
   ·refine AW.g (AL.r (qa jAg) ?_); refine AL.r (ql ag_9) ?_; refine AL.cl (jHs x.other) ?_; refine AL.n ?_; refine AL.ra ?_; refine AL.nil (AW.ret (r1t ?_))
    (refine sb ?_; subst hy; rw [jBp h12 h17]; clear h12 h17; simp_all [jDo] <;> exact jBK _)
   refine AW.skip (AW.g (AL.r (qN jAn) ?_)); refine AL.cl (jF2 x) ?_; refine AL.n ?_; refine AL.ra ?_; refine AL.nil (AW.ret (r1t ?_))
   (refine sb ?_; subst hy; rw [jBp h12 h17]; clear h12 h17; simp_all [jDo] <;> exact jBK _)
  refine AW.region (AL.r qb ?_); refine AL.ra ?_; refine AL.nil (AW.cd rfl (fun h57 => ?_) (fun h57 => ?_))
  ·refine AW.g (AL.r (qa jAt) ?_); refine AL.r (ql ag_9) ?_; refine AL.cl (jDM x.name) ?_; refine AL.n ?_; refine AL.rm ?_; refine AL.fk (d := 63) rfl (fun h63 => ?_) (fun h63 => ?_)
   ·refine AL.n ?_; refine AL.ro (qa jAg) ?_; refine AL.ro (ql ag_9) ?_; refine AL.on rfl rfl rfl (AOpB.op (jAb (jDM x.other) rfl (by kernel_rfl) rfl (none) ?_)); rintro r rfl; refine AL.n ?_; refine AL.r qt ?_; refine AL.rm ?_; refine AL.fk (d := 68) rfl (fun h68 => ?_) (fun h68 => ?_)
    ·refine AL.n ?_; refine AL.ro (qa jAt) ?_; refine AL.ro (ql ag_9) ?_; refine AL.ro (qa jAg) ?_; refine AL.ro (ql ag_9) ?_; refine AL.ro (jEc rfl rfl rfl) ?_; refine AL.r qt ?_; refine AL.rm ?_; refine AL.fk (d := 75) rfl (fun h75 => ?_) (fun h75 => ?_)
     ·refine AL.n ?_; refine AL.ro (qa jBm) ?_; refine AL.ro (ql ag_2) ?_; refine AL.on rfl rfl rfl (AOpB.op (jAb (jJ1 x.factor) rfl (by kernel_rfl) rfl (none) ?_)); rintro r rfl; refine AL.n ?_; refine AL.r qt ?_; refine AL.ra ?_; refine AL.nil (AW.ret (r1t ?_))
      (refine sb ?_; subst hy; rw [jBp h12 h17]; clear h12 h17; simp_all [jDo] <;> exact jBK _)
     refine AL.n ?_; (iterate 3 refine AL.rf ?_); refine AL.r qf ?_; refine AL.ra ?_; refine AL.nil (AW.ret (r1t ?_))
     (refine sb ?_; subst hy; rw [jBp h12 h17]; clear h12 h17; simp_all [jDo] <;> exact jBK _)
    refine AL.n ?_; (iterate 5 refine AL.rf ?_); refine AL.r qf ?_; refine AL.rm ?_; (iterate 3 refine AL.rf ?_); refine AL.r qf ?_; refine AL.ra ?_; refine AL.nil (AW.ret (r1t ?_))
    (refine sb ?_; subst hy; rw [jBp h12 h17]; clear h12 h17; simp_all [jDo] <;> exact jBK _)
   refine AL.n ?_; (iterate 3 refine AL.rf ?_); refine AL.r qf ?_; refine AL.rm ?_; (iterate 5 refine AL.rf ?_); refine AL.r qf ?_; refine AL.rm ?_; (iterate 3 refine AL.rf ?_); refine AL.r qf ?_; refine AL.ra ?_; refine AL.nil (AW.ret (r1t ?_))
   (refine sb ?_; subst hy; rw [jBp h12 h17]; clear h12 h17; simp_all [jDo] <;> exact jBK _)
  refine AW.seq (AW.g (AL.r qb ?_)); refine AL.ra ?_; refine AL.nil (AW.cd rfl (fun h80 => ?_) (fun h80 => ?_))
  ·refine AW.skip (AW.cd rfl (fun h80 => ?_) (fun h80 => ?_))
   ·refine AW.g (AL.r (qa jAg) ?_); refine AL.r (ql ag_9) ?_; refine AL.cl (jHs x.other) ?_; refine AL.n ?_; refine AL.ra ?_; refine AL.nil (AW.ret (r1t ?_))
    (refine sb ?_; subst hy; rw [jBp h12 h17]; clear h12 h17; simp_all [jDo] <;> exact jBK _)
   refine AW.skip (AW.g (AL.r (qN jAn) ?_)); refine AL.cl (jF2 x) ?_; refine AL.n ?_; refine AL.ra ?_; refine AL.nil (AW.ret (r1t ?_))
   (refine sb ?_; subst hy; rw [jBp h12 h17]; clear h12 h17; simp_all [jDo] <;> exact jBK _)
  refine AW.region (AL.r qb ?_); refine AL.ra ?_; refine AL.nil (AW.cd rfl (fun h80 => ?_) (fun h80 => ?_))
  ·refine AW.g (AL.r (qa jAg) ?_); refine AL.r (ql ag_9) ?_; refine AL.cl (jHs x.other) ?_; refine AL.n ?_; refine AL.ra ?_; refine AL.nil (AW.ret (r1t ?_))
   (refine sb ?_; subst hy; rw [jBp h12 h17]; clear h12 h17; simp_all [jDo] <;> exact jBK _)
  refine AW.skip (AW.g (AL.r (qN jAn) ?_)); refine AL.cl (jF2 x) ?_; refine AL.n ?_; refine AL.ra ?_; refine AL.nil (AW.ret (r1t ?_))
  (refine sb ?_; subst hy; rw [jBp h12 h17]; clear h12 h17; simp_all [jDo] <;> exact jBK _)
end Go.Proofs.YtlapcfnmmpbeeaaGreat
