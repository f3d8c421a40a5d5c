/- A part of a proof. -/
import Derived.Test.YtlapcfnmmpbeeaaGreatPO28
set_option linter.unusedSimpArgs false
set_option linter.unusedVariables false
namespace Go.Proofs.YtlapcfnmmpbeeaaGreat
set_option maxRecDepth 100000
set_option maxRecDepth 100000
open Go.RowKit
theorem nl5 {a b : Bool} (h : a = b := by simp_all [jLd, jDF] <;> first | omega | exact jDv _ _ | exact jBK _ | (rw [Bool.eq_iff_iff]; simp; done) | (intros; omega)) : RS.s (AB a) = RS.s (AB b) := sb h
set_option maxHeartbeats 1000000 in
theorem jEW (x : LensD) (h : x.Small) : AC Tryz.prog 83 [x.av] (fun r => r = .s (AB (jB2 x))) := by
  rw [← jK0]
  have h1 := h.cases; have h2 := h.forth; have h3 := h.back
  change AC _ _ [.ag [AI x.kind, AI x.at_.scope, AS x.at_.group, AS x.at_.name, AS x.name, AS x.other, AI x.factor, AI x.field.at_.scope, AS x.field.at_.group, AS x.field.at_.name, AI x.field.kind, AS x.field.dflt, .sl (csS x.field.cases), AI x.field.worth, .sl (x.forth.map PairD.cs), .sl (x.back.map PairD.cs)]] _; refine AC.of' 196 1 Tryz.func83 rfl ?_; change AW _ _ _ _ [TK.mk 0 .off]; refine AW.g (AL.oq (AOpB.op (oB 0 ?_))); refine AL.n ?_; refine AL.ra ?_; refine AL.nil (AW.seq (AW.g (AL.r (qa jBf) ?_))); refine AL.r (ql ag_3) ?_; refine AL.r qb ?_; refine AL.rm ?_; refine AL.fk (d := 10) rfl (fun h10 => ?_) (fun h10 => ?_)
  ·refine AL.n ?_; (iterate 3 refine AL.rf ?_); refine AL.r qt ?_; refine AL.nil (AW.cond_t rfl (AW.g (AL.r (qa jAh) ?_))); refine AL.r (qN jBa) ?_; refine AL.r (qB jLw jIY) ?_; refine AL.r (jCW rfl rfl rfl) ?_; refine AL.rm ?_; refine AL.fk (d := 19) rfl (fun h19 => ?_) (fun h19 => ?_)
   ·refine AL.n ?_; refine AL.ro (qa jAt) ?_; refine AL.ro (ql ag_9) ?_; refine AL.ro (jBi rfl rfl rfl) ?_; refine AL.r qt ?_; refine AL.rm ?_; refine AL.fk (d := 24) rfl (fun h24 => ?_) (fun h24 => ?_)
    ·refine AL.n ?_; refine AL.ro (qa jAg) ?_; refine AL.ro (ql ag_9) ?_; refine AL.ro (jBi rfl rfl rfl) ?_; refine AL.r qt ?_; refine AL.rm ?_; refine AL.fk (d := 29) rfl (fun h29 => ?_) (fun h29 => ?_)
     ·refine AL.n ?_; refine AL.ro (qa jBm) ?_; refine AL.ro (ql ag_2) ?_; refine AL.ro qb ?_; refine AL.r qt ?_; refine AL.rm ?_; refine AL.fk (d := 34) rfl (fun h34 => ?_) (fun h34 => ?_)
      ·refine AL.n ?_; refine AL.ro (qN jAn) ?_; refine AL.on rfl rfl rfl (AOpB.op (jAb (jFs x) rfl (by kernel_rfl) rfl (none) ?_)); rintro r rfl; refine AL.n ?_; refine AL.ro qu ?_; refine AL.r qt ?_; refine AL.rm ?_; refine AL.fk (d := 39) rfl (fun h39 => ?_) (fun h39 => ?_)
       ·refine AL.n ?_; refine AL.ro (qa jB6) ?_; refine AL.ro (qN jCq) ?_; refine AL.on rfl rfl rfl (AOpB.op (jAb (jIi x.field (by omega)) rfl (by kernel_rfl) rfl (none) ?_)); rintro r rfl; refine AL.n ?_; refine AL.r qt ?_; refine AL.ra ?_; refine AL.nil (AW.ret (r1t ?_)); exact nl5
       refine AL.n ?_; (iterate 3 refine AL.rf ?_); refine AL.r qf ?_; refine AL.ra ?_; refine AL.nil (AW.ret (r1t ?_)); exact nl5
      refine AL.n ?_; (iterate 3 refine AL.rf ?_); refine AL.r qf ?_; refine AL.rm ?_; (iterate 3 refine AL.rf ?_); refine AL.r qf ?_; refine AL.ra ?_; refine AL.nil (AW.ret (r1t ?_)); exact nl5
     refine AL.n ?_; (iterate 2 ((iterate 3 refine AL.rf ?_); refine AL.r qf ?_; refine AL.rm ?_)); (iterate 3 refine AL.rf ?_); refine AL.r qf ?_; refine AL.ra ?_; refine AL.nil (AW.ret (r1t ?_)); exact nl5
    refine AL.n ?_; (iterate 3 ((iterate 3 refine AL.rf ?_); refine AL.r qf ?_; refine AL.rm ?_)); (iterate 3 refine AL.rf ?_); refine AL.r qf ?_; refine AL.ra ?_; refine AL.nil (AW.ret (r1t ?_)); exact nl5
   refine AL.n ?_; (iterate 4 ((iterate 3 refine AL.rf ?_); refine AL.r qf ?_; refine AL.rm ?_)); (iterate 3 refine AL.rf ?_); refine AL.r qf ?_; refine AL.ra ?_; refine AL.nil (AW.ret (r1t ?_)); exact nl5
  refine AL.n ?_; refine AL.ro (qa jBf) ?_; refine AL.ro (ql ag_3) ?_; refine AL.ro qb ?_; refine AL.r qf ?_; refine AL.nil (AW.cd rfl (fun h14 => ?_) (fun h14 => ?_))
  ·refine AW.g (AL.r (qa jAh) ?_); refine AL.r (qN jBa) ?_; refine AL.r (qB jLw jIY) ?_; refine AL.r (jCW rfl rfl rfl) ?_; refine AL.rm ?_; refine AL.fk (d := 19) rfl (fun h19 => ?_) (fun h19 => ?_)
   ·refine AL.n ?_; refine AL.ro (qa jAt) ?_; refine AL.ro (ql ag_9) ?_; refine AL.ro (jBi rfl rfl rfl) ?_; refine AL.r qt ?_; refine AL.rm ?_; refine AL.fk (d := 24) rfl (fun h24 => ?_) (fun h24 => ?_)
    ·refine AL.n ?_; refine AL.ro (qa jAg) ?_; refine AL.ro (ql ag_9) ?_; refine AL.ro (jBi rfl rfl rfl) ?_; refine AL.r qt ?_; refine AL.rm ?_; refine AL.fk (d := 29) rfl (fun h29 => ?_) (fun h29 => ?_)
     ·refine AL.n ?_; refine AL.ro (qa jBm) ?_; refine AL.ro (ql ag_2) ?_; refine AL.ro qb ?_; refine AL.r qt ?_; refine AL.rm ?_; refine AL.fk (d := 34) rfl (fun h34 => ?_) (fun h34 => ?_)
      ·refine AL.n ?_; refine AL.ro (qN jAn) ?_; refine AL.on rfl rfl rfl (AOpB.op (jAb (jFs x) rfl (by kernel_rfl) rfl (none) ?_)); rintro r rfl; refine AL.n ?_; refine AL.ro qu ?_; refine AL.r qt ?_; refine AL.rm ?_; refine AL.fk (d := 39) rfl (fun h39 => ?_) (fun h39 => ?_)
       ·refine AL.n ?_; refine AL.ro (qa jB6) ?_; refine AL.ro (qN jCq) ?_; refine AL.on rfl rfl rfl (AOpB.op (jAb (jIi x.field (by omega)) rfl (by kernel_rfl) rfl (none) ?_)); rintro r rfl; refine AL.n ?_; refine AL.r qt ?_; refine AL.ra ?_; refine AL.nil (AW.ret (r1t ?_)); exact nl5
       refine AL.n ?_; (iterate 3 refine AL.rf ?_); refine AL.r qf ?_; refine AL.ra ?_; refine AL.nil (AW.ret (r1t ?_)); exact nl5
      refine AL.n ?_; (iterate 3 refine AL.rf ?_); refine AL.r qf ?_; refine AL.rm ?_; (iterate 3 refine AL.rf ?_); refine AL.r qf ?_; refine AL.ra ?_; refine AL.nil (AW.ret (r1t ?_)); exact nl5
     refine AL.n ?_; (iterate 2 ((iterate 3 refine AL.rf ?_); refine AL.r qf ?_; refine AL.rm ?_)); (iterate 3 refine AL.rf ?_); refine AL.r qf ?_; refine AL.ra ?_; refine AL.nil (AW.ret (r1t ?_)); exact nl5
    refine AL.n ?_; (iterate 3 ((iterate 3 refine AL.rf ?_); refine AL.r qf ?_; refine AL.rm ?_)); (iterate 3 refine AL.rf ?_); refine AL.r qf ?_; refine AL.ra ?_; refine AL.nil (AW.ret (r1t ?_)); exact nl5
   refine AL.n ?_; (iterate 4 ((iterate 3 refine AL.rf ?_); refine AL.r qf ?_; refine AL.rm ?_)); (iterate 3 refine AL.rf ?_); refine AL.r qf ?_; refine AL.ra ?_; refine AL.nil (AW.ret (r1t ?_)); exact nl5
  refine AW.skip (AW.seq (AW.g (AL.r (qa jAh) ?_))); refine AL.r (qN jBa) ?_; refine AL.cl (jH4 x.at_) ?_; refine AL.n ?_; refine AL.r qu ?_; refine AL.rm ?_; refine AL.fk (d := 48) rfl (fun h48 => ?_) (fun h48 => ?_)
  ·refine AL.n ?_; (iterate 3 refine AL.rf ?_); refine AL.r qt ?_; refine AL.nil (AW.cond_t rfl (AW.g (AL.ra ?_))); refine AL.nil (AW.ret (r1t ?_)); exact nl5
  refine AL.n ?_; refine AL.ro (qN jAn) ?_; refine AL.on rfl rfl rfl (AOpB.op (jAb (rnone_c x h) rfl (by kernel_rfl) rfl (none) ?_)); rintro r rfl; refine AL.n ?_; refine AL.ro qu ?_; refine AL.r qf ?_; refine AL.nil (AW.cd rfl (fun h52 => ?_) (fun h52 => ?_))
  ·refine AW.g (AL.ra ?_); refine AL.nil (AW.ret (r1t ?_)); exact nl5
  refine AW.skip (AW.seq (AW.g (AL.r (qa jBf) ?_))); refine AL.r (ql ag_3) ?_; refine AL.r qb ?_; refine AL.nil (AW.cd rfl (fun h55 => ?_) (fun h55 => ?_))
  ·refine AW.g (AL.r (qa jAS) ?_); refine AL.r (ql jBG) ?_; refine AL.r (qa jAt) ?_; refine AL.r (ql ag_9) ?_; refine AL.cl (jM8 x.forth x.name) ?_; refine AL.n ?_; refine AL.rm ?_; refine AL.r qe ?_; refine AL.r qe ?_; (iterate 2 refine AL.ra ?_); refine AL.nil (AW.g (AL.r (qa jAT) ?_)); refine AL.r (ql jBG) ?_; refine AL.r (qa jAg) ?_; refine AL.r (ql ag_9) ?_; refine AL.oq (AOpB.op (jAb (jM8 x.back x.other) rfl (by kernel_rfl) rfl (none) ?_)); rintro r rfl; refine AL.n ?_; refine AL.rm ?_; refine AL.r qe ?_; refine AL.r qe ?_; (iterate 2 refine AL.ra ?_); refine AL.nil (AW.g (AL.r (qa jBm) ?_)); refine AL.r (ql ag_2) ?_; refine AL.r qb ?_; refine AL.rm ?_; refine AL.fk (d := 75) rfl (fun h75 => ?_) (fun h75 => ?_)
   ·refine AL.n ?_; refine AL.ro (qa jAS) ?_; refine AL.ro (ql jBG) ?_; refine AL.ro (qa jAT) ?_; refine AL.ro (ql jBG) ?_; refine AL.on rfl rfl rfl (AOpB.op (jAb (jMl x.forth x.back (by omega)) rfl (by kernel_rfl) rfl (none) ?_)); rintro r rfl; refine AL.n ?_; refine AL.r qt ?_; refine AL.rm ?_; refine AL.fk (d := 82) rfl (fun h82 => ?_) (fun h82 => ?_)
    ·refine AL.n ?_; refine AL.ro (qa jAT) ?_; refine AL.ro (ql jBG) ?_; refine AL.ro (qa jAS) ?_; refine AL.ro (ql jBG) ?_; refine AL.on rfl rfl rfl (AOpB.op (jAb (jMl x.back x.forth (by omega)) rfl (by kernel_rfl) rfl (none) ?_)); rintro r rfl; refine AL.n ?_; refine AL.r qt ?_; refine AL.rm ?_; refine AL.fk (d := 89) rfl (fun h89 => ?_) (fun h89 => ?_)
     ·refine AL.n ?_; refine AL.ro (jAa rfl rfl) ?_; refine AL.r qt ?_; refine AL.rm ?_; refine AL.fk (d := 92) rfl (fun h92 => ?_) (fun h92 => ?_)
      ·refine AL.n ?_; refine AL.ro (jAa rfl rfl) ?_; refine AL.r qt ?_; refine AL.rm ?_; refine AL.fk (d := 95) rfl (fun h95 => ?_) (fun h95 => ?_)
       ·refine AL.n ?_; refine AL.ro (jAa rfl rfl) ?_; refine AL.ro (qa jAg) ?_; refine AL.ro (ql ag_9) ?_; refine AL.ro (jBi rfl rfl rfl) ?_; refine AL.r qt ?_; refine AL.rm ?_; refine AL.fk (d := 101) rfl (fun h101 => ?_) (fun h101 => ?_)
        ·refine AL.n ?_; refine AL.ro (jAa rfl rfl) ?_; refine AL.ro (qa jAt) ?_; refine AL.ro (ql ag_9) ?_; refine AL.ro (jBi rfl rfl rfl) ?_; refine AL.r qt ?_; refine AL.ra ?_; refine AL.nil (AW.ret (r1t ?_)); exact nl5
        refine AL.n ?_; (iterate 4 refine AL.rf ?_); refine AL.r qf ?_; refine AL.ra ?_; refine AL.nil (AW.ret (r1t ?_)); exact nl5
       refine AL.n ?_; (iterate 4 refine AL.rf ?_); refine AL.r qf ?_; refine AL.rm ?_; (iterate 4 refine AL.rf ?_); refine AL.r qf ?_; refine AL.ra ?_; refine AL.nil (AW.ret (r1t ?_)); exact nl5
      refine AL.n ?_; refine AL.rf ?_; (iterate 2 (refine AL.r qf ?_; refine AL.rm ?_; (iterate 4 refine AL.rf ?_))); refine AL.r qf ?_; refine AL.ra ?_; refine AL.nil (AW.ret (r1t ?_)); exact nl5
     refine AL.n ?_; (iterate 2 (refine AL.rf ?_; refine AL.r qf ?_; refine AL.rm ?_)); (iterate 4 refine AL.rf ?_); refine AL.r qf ?_; refine AL.rm ?_; (iterate 4 refine AL.rf ?_); refine AL.r qf ?_; refine AL.ra ?_; refine AL.nil (AW.ret (r1t ?_)); exact nl5
    refine AL.n ?_; (iterate 5 refine AL.rf ?_); (iterate 2 (refine AL.r qf ?_; refine AL.rm ?_; refine AL.rf ?_)); (iterate 2 (refine AL.r qf ?_; refine AL.rm ?_; (iterate 4 refine AL.rf ?_))); refine AL.r qf ?_; refine AL.ra ?_; refine AL.nil (AW.ret (r1t ?_)); exact nl5
   refine AL.n ?_; (iterate 2 ((iterate 5 refine AL.rf ?_); refine AL.r qf ?_; refine AL.rm ?_)); (iterate 2 (refine AL.rf ?_; refine AL.r qf ?_; refine AL.rm ?_)); (iterate 4 refine AL.rf ?_); refine AL.r qf ?_; refine AL.rm ?_; (iterate 4 refine AL.rf ?_); refine AL.r qf ?_; refine AL.ra ?_; refine AL.nil (AW.ret (r1t ?_)); exact nl5
  refine AW.skip (AW.seq (AW.g (AL.r (qN jAn) ?_))); refine AL.cl (jFs x) ?_; refine AL.n ?_; refine AL.nil (AW.cd rfl (fun h108 => ?_) (fun h108 => ?_))
  ·refine AW.g (AL.ra ?_); refine AL.nil (AW.ret (r1t ?_)); exact nl5
  refine AW.skip (AW.seq (AW.g (AL.r (qa jBf) ?_))); refine AL.r (ql ag_3) ?_; refine AL.r qb ?_; refine AL.rm ?_; refine AL.fk (d := 112) rfl (fun h112 => ?_) (fun h112 => ?_)
  ·refine AL.n ?_; (iterate 3 refine AL.rf ?_); refine AL.r qt ?_; refine AL.nil (AW.cond_t rfl (AW.g (AL.r (qa jAt) ?_))); refine AL.r (ql ag_9) ?_; refine AL.cl (jCP x.name) ?_; refine AL.n ?_; refine AL.rm ?_; refine AL.fk (d := 120) rfl (fun h120 => ?_) (fun h120 => ?_)
   ·refine AL.n ?_; refine AL.ro (qa jAg) ?_; refine AL.ro (ql ag_9) ?_; refine AL.on rfl rfl rfl (AOpB.op (jAb (jCP x.other) rfl (by kernel_rfl) rfl (none) ?_)); rintro r rfl; refine AL.n ?_; refine AL.r qt ?_; refine AL.rm ?_; refine AL.fk (d := 125) rfl (fun h125 => ?_) (fun h125 => ?_)
    ·refine AL.n ?_; refine AL.ro (qa jAt) ?_; refine AL.ro (ql ag_9) ?_; refine AL.ro (qa jAg) ?_; refine AL.ro (ql ag_9) ?_; refine AL.ro (jEc rfl rfl rfl) ?_; refine AL.r qt ?_; refine AL.rm ?_; refine AL.fk (d := 132) rfl (fun h132 => ?_) (fun h132 => ?_)
     ·refine AL.n ?_; refine AL.ro (qa jBm) ?_; refine AL.ro (ql ag_2) ?_; refine AL.ro qb ?_; refine AL.r qt ?_; refine AL.rm ?_; refine AL.fk (d := 137) rfl (fun h137 => ?_) (fun h137 => ?_)
      ·refine AL.n ?_; refine AL.ro (qa jBm) ?_; refine AL.ro (ql ag_2) ?_; refine AL.ro qb ?_; refine AL.r qt ?_; refine AL.ra ?_; refine AL.nil (AW.ret (r1t ?_)); exact nl5
      refine AL.n ?_; (iterate 3 refine AL.rf ?_); refine AL.r qf ?_; refine AL.ra ?_; refine AL.nil (AW.ret (r1t ?_)); exact nl5
     refine AL.n ?_; (iterate 3 refine AL.rf ?_); refine AL.r qf ?_; refine AL.rm ?_; (iterate 3 refine AL.rf ?_); refine AL.r qf ?_; refine AL.ra ?_; refine AL.nil (AW.ret (r1t ?_)); exact nl5
    refine AL.n ?_; (iterate 5 refine AL.rf ?_); (iterate 2 (refine AL.r qf ?_; refine AL.rm ?_; (iterate 3 refine AL.rf ?_))); refine AL.r qf ?_; refine AL.ra ?_; refine AL.nil (AW.ret (r1t ?_)); exact nl5
   refine AL.n ?_; (iterate 3 refine AL.rf ?_); refine AL.r qf ?_; refine AL.rm ?_; (iterate 5 refine AL.rf ?_); (iterate 2 (refine AL.r qf ?_; refine AL.rm ?_; (iterate 3 refine AL.rf ?_))); refine AL.r qf ?_; refine AL.ra ?_; refine AL.nil (AW.ret (r1t ?_)); exact nl5
  refine AL.n ?_; refine AL.ro (qa jBf) ?_; refine AL.ro (ql ag_3) ?_; refine AL.ro qb ?_; refine AL.r qf ?_; refine AL.nil (AW.cd rfl (fun h116 => ?_) (fun h116 => ?_))
  ·refine AW.g (AL.r (qa jAt) ?_); refine AL.r (ql ag_9) ?_; refine AL.cl (jCP x.name) ?_; refine AL.n ?_; refine AL.rm ?_; refine AL.fk (d := 120) rfl (fun h120 => ?_) (fun h120 => ?_)
   ·refine AL.n ?_; refine AL.ro (qa jAg) ?_; refine AL.ro (ql ag_9) ?_; refine AL.on rfl rfl rfl (AOpB.op (jAb (jCP x.other) rfl (by kernel_rfl) rfl (none) ?_)); rintro r rfl; refine AL.n ?_; refine AL.r qt ?_; refine AL.rm ?_; refine AL.fk (d := 125) rfl (fun h125 => ?_) (fun h125 => ?_)
    ·refine AL.n ?_; refine AL.ro (qa jAt) ?_; refine AL.ro (ql ag_9) ?_; refine AL.ro (qa jAg) ?_; refine AL.ro (ql ag_9) ?_; refine AL.ro (jEc rfl rfl rfl) ?_; refine AL.r qt ?_; refine AL.rm ?_; refine AL.fk (d := 132) rfl (fun h132 => ?_) (fun h132 => ?_)
     ·refine AL.n ?_; refine AL.ro (qa jBm) ?_; refine AL.ro (ql ag_2) ?_; refine AL.ro qb ?_; refine AL.r qt ?_; refine AL.rm ?_; refine AL.fk (d := 137) rfl (fun h137 => ?_) (fun h137 => ?_)
      ·refine AL.n ?_; refine AL.ro (qa jBm) ?_; refine AL.ro (ql ag_2) ?_; refine AL.ro qb ?_; refine AL.r qt ?_; refine AL.ra ?_; refine AL.nil (AW.ret (r1t ?_)); exact nl5
      refine AL.n ?_; (iterate 3 refine AL.rf ?_); refine AL.r qf ?_; refine AL.ra ?_; refine AL.nil (AW.ret (r1t ?_)); exact nl5
     refine AL.n ?_; (iterate 3 refine AL.rf ?_); refine AL.r qf ?_; refine AL.rm ?_; (iterate 3 refine AL.rf ?_); refine AL.r qf ?_; refine AL.ra ?_; refine AL.nil (AW.ret (r1t ?_)); exact nl5
    refine AL.n ?_; (iterate 5 refine AL.rf ?_); (iterate 2 (refine AL.r qf ?_; refine AL.rm ?_; (iterate 3 refine AL.rf ?_))); refine AL.r qf ?_; refine AL.ra ?_; refine AL.nil (AW.ret (r1t ?_)); exact nl5
   refine AL.n ?_; (iterate 3 refine AL.rf ?_); refine AL.r qf ?_; refine AL.rm ?_; (iterate 5 refine AL.rf ?_); (iterate 2 (refine AL.r qf ?_; refine AL.rm ?_; (iterate 3 refine AL.rf ?_))); refine AL.r qf ?_; refine AL.ra ?_; refine AL.nil (AW.ret (r1t ?_)); exact nl5
  refine AW.skip (AW.seq (AW.g (AL.r (qa jBm) ?_))); refine AL.r (ql ag_2) ?_; refine AL.r qb ?_; refine AL.nil (AW.cd rfl (fun h144 => ?_) (fun h144 => ?_))
  ·refine AW.g (AL.ra ?_); refine AL.nil (AW.ret (r1t ?_)); exact nl5
  refine AW.skip (AW.seq (AW.g (AL.r (qa jBf) ?_))); refine AL.r (ql ag_3) ?_; refine AL.r qb ?_; refine AL.rm ?_; refine AL.fk (d := 148) rfl (fun h148 => ?_) (fun h148 => ?_)
  ·refine AL.n ?_; (iterate 3 refine AL.rf ?_); refine AL.r qt ?_; refine AL.nil (AW.cond_t rfl (AW.g (AL.r (qa jAt) ?_))); refine AL.r (ql ag_9) ?_; refine AL.r (jBi rfl rfl rfl) ?_; refine AL.rm ?_; refine AL.fk (d := 156) rfl (fun h156 => ?_) (fun h156 => ?_)
   ·refine AL.n ?_; refine AL.ro (qa jAg) ?_; refine AL.ro (ql ag_9) ?_; refine AL.ro (jBF rfl jDb rfl) ?_; refine AL.ro qb ?_; refine AL.r qt ?_; refine AL.ra ?_; refine AL.nil (AW.ret (r1t ?_)); exact nl5
   refine AL.n ?_; (iterate 4 refine AL.rf ?_); refine AL.r qf ?_; refine AL.ra ?_; refine AL.nil (AW.ret (r1t ?_)); exact nl5
  refine AL.n ?_; refine AL.ro (qa jBf) ?_; refine AL.ro (ql ag_3) ?_; refine AL.ro qb ?_; refine AL.r qf ?_; refine AL.nil (AW.cd rfl (fun h152 => ?_) (fun h152 => ?_))
  ·refine AW.g (AL.r (qa jAt) ?_); refine AL.r (ql ag_9) ?_; refine AL.r (jBi rfl rfl rfl) ?_; refine AL.rm ?_; refine AL.fk (d := 156) rfl (fun h156 => ?_) (fun h156 => ?_)
   ·refine AL.n ?_; refine AL.ro (qa jAg) ?_; refine AL.ro (ql ag_9) ?_; refine AL.ro (jBF rfl jDb rfl) ?_; refine AL.ro qb ?_; refine AL.r qt ?_; refine AL.ra ?_; refine AL.nil (AW.ret (r1t ?_)); exact nl5
   refine AL.n ?_; (iterate 4 refine AL.rf ?_); refine AL.r qf ?_; refine AL.ra ?_; refine AL.nil (AW.ret (r1t ?_)); exact nl5
  refine AW.skip (AW.seq (AW.g (AL.r (qa jAg) ?_))); refine AL.r (ql ag_9) ?_; refine AL.r (jEc rfl rfl rfl) ?_; refine AL.nil (AW.cd rfl (fun h164 => ?_) (fun h164 => ?_))
  ·refine AW.g (AL.ra ?_); refine AL.nil (AW.ret (r1t ?_)); exact nl5
  refine AW.skip (AW.seq (AW.g (AL.r (qa jBf) ?_))); refine AL.r (ql ag_3) ?_; refine AL.r qb ?_; refine AL.nil (AW.cd rfl (fun h167 => ?_) (fun h167 => ?_))
  ·refine AW.g (AL.r (qa jAt) ?_); refine AL.r (ql ag_9) ?_; refine AL.cl (jCP x.name) ?_; refine AL.n ?_; refine AL.ra ?_; refine AL.nil (AW.ret (r1t ?_)); exact nl5
  refine AW.skip (AW.seq (AW.g (AL.r (qa jBf) ?_))); refine AL.r (ql ag_3) ?_; refine AL.r qb ?_; refine AL.nil (AW.cd rfl (fun h173 => ?_) (fun h173 => ?_))
  ·refine AW.g (AL.r (qa jAt) ?_); refine AL.r (ql ag_9) ?_; refine AL.r (jBi rfl rfl rfl) ?_; refine AL.rm ?_; refine AL.fk (d := 177) rfl (fun h177 => ?_) (fun h177 => ?_)
   ·refine AL.n ?_; refine AL.ro (qa jAh) ?_; refine AL.ro (qa jC1) ?_; refine AL.ro (ql ag_9) ?_; refine AL.ro (jEc rfl rfl rfl) ?_; refine AL.r qt ?_; refine AL.ra ?_; refine AL.nil (AW.ret (r1t ?_)); exact nl5
   refine AL.n ?_; (iterate 4 refine AL.rf ?_); refine AL.r qf ?_; refine AL.ra ?_; refine AL.nil (AW.ret (r1t ?_)); exact nl5
  refine AW.skip (AW.g (AL.r (qa jBf) ?_)); refine AL.r (ql ag_3) ?_; refine AL.r qb ?_; refine AL.rm ?_; refine AL.fk (d := 186) rfl (fun h186 => ?_) (fun h186 => ?_)
  ·refine AL.n ?_; refine AL.ro (qa jAh) ?_; refine AL.ro (qa jC1) ?_; refine AL.ro (ql ag_9) ?_; refine AL.ro (jBi rfl rfl rfl) ?_; refine AL.r qt ?_; refine AL.rm ?_; refine AL.fk (d := 192) rfl (fun h192 => ?_) (fun h192 => ?_)
   ·refine AL.n ?_; refine AL.ro (qa jAt) ?_; refine AL.ro (ql ag_9) ?_; refine AL.on rfl rfl rfl (AOpB.op (jAb (jCP x.name) rfl (by kernel_rfl) rfl (none) ?_)); rintro r rfl; refine AL.n ?_; refine AL.r qt ?_; refine AL.ra ?_; refine AL.nil (AW.ret (r1t ?_)); exact nl5
   refine AL.n ?_; (iterate 3 refine AL.rf ?_); refine AL.r qf ?_; refine AL.ra ?_; refine AL.nil (AW.ret (r1t ?_)); exact nl5
  refine AL.n ?_; (iterate 4 refine AL.rf ?_); refine AL.r qf ?_; refine AL.rm ?_; (iterate 3 refine AL.rf ?_); refine AL.r qf ?_; refine AL.ra ?_; refine AL.nil (AW.ret (r1t ?_)); exact nl5
end Go.Proofs.YtlapcfnmmpbeeaaGreat
