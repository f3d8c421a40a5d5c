/- A part of a proof. -/
import Derived.Test.YtlapcfnmmpbeeaaGreatPO22
set_option linter.unusedSimpArgs false
set_option linter.unusedVariables false
namespace Go.Proofs.YtlapcfnmmpbeeaaGreat
set_option maxRecDepth 100000
open Go.RowKit
set_option maxHeartbeats 2000000 in
theorem jKr (o : OpD) : AC Tryz.prog 30 [o.av] (fun r => r = .s (AB (jBs o))) := by
  rw [← jHa]
  change AC _ _ [.ag [AI o.id.rep, AI o.id.n, AI o.schema.rep, AI o.schema.n, AI o.time, AS o.cart, AI o.kind, AS o.item, AI o.at_.scope, AS o.at_.group, AS o.at_.name, AI o.delta, AB o.has, AS o.text, .sl (o.drops.map TagD.cs)]] _; refine AC.of' 157 1 Tryz.func30 rfl ?_; change AW _ _ _ _ [TK.mk 0 .off]; refine AW.g (AL.oq (AOpB.op (oB 0 ?_))); refine AL.n ?_; refine AL.ra ?_; refine AL.nil (AW.join (ι := Unit) [2, 3, 4, 5, 6, 7, 8, 9, 10, 11, 12, 13, 14, 15, 16, 17, 18, 19, 20, 21, 22, 23, 24, 25, 26, 27, 28, 29, 30, 31, 32, 33, 34, 35, 36, 37, 38, 39] (fun u39 => []) [] (fun u39 => []) (fun u39 => tagB o.id = true ∧ (decide (o.schema = ⟨0, 0⟩) || tagB o.schema) = true ∧ 1 ≤ o.time ∧ o.time ≤ 1099511627776 ∧ jBB o.cart = true ∧ jEi o = true) ?_ ?_)
  ·refine AW.g (AL.r (qa jEt) ?_); refine AL.r (qN jAN) ?_; refine AL.cl (jHh o.id) ?_; refine AL.n ?_; refine AL.r qu ?_; refine AL.rm ?_; refine AL.fk (d := 7) rfl (fun h7 => ?_) (fun h7 => ?_)
   ·refine AL.n ?_; (iterate 5 refine AL.rf ?_); (iterate 4 refine AL.ru ?_); refine AL.rf ?_; (iterate 2 (refine AL.r qt ?_; refine AL.rm ?_; (iterate 3 refine AL.rf ?_))); refine AL.r qt ?_; refine AL.rm ?_; (iterate 4 refine AL.rf ?_); refine AL.r qt ?_; refine AL.rm ?_; (iterate 3 refine AL.rf ?_); refine AL.r qt ?_; refine AL.nil (AW.cond_t rfl (AW.g (AL.ra ?_))); refine AL.nil (AW.ret (r1t ?_)); refine sb ?_
    grind [jBz, List.isEmpty_iff, List.length_eq_zero_iff]
   refine AL.n ?_; refine AL.ro (qa jEp) ?_; refine AL.ro (qN jAN) ?_; refine AL.ro (qB jIv jDZ) ?_; refine AL.ro (jDS rfl rfl rfl) ?_; refine AL.ro (jAa rfl rfl) ?_; refine AL.fk (d := 12) rfl (fun h12 => ?_) (fun h12 => ?_)
   ·refine AL.n ?_; refine AL.ro (qa jEp) ?_; refine AL.ro (qN jAN) ?_; refine AL.on rfl rfl rfl (AOpB.op (jAb (jHh o.schema) rfl (by kernel_rfl) rfl (none) ?_)); rintro r rfl; refine AL.n ?_; refine AL.ro qu ?_; refine AL.ro (jAm rfl rfl rfl) ?_; refine AL.r qf ?_; refine AL.rm ?_; refine AL.fk (d := 19) rfl (fun h19 => ?_) (fun h19 => ?_)
    ·refine AL.n ?_; (iterate 2 ((iterate 3 refine AL.rf ?_); refine AL.r qt ?_; refine AL.rm ?_)); (iterate 4 refine AL.rf ?_); refine AL.r qt ?_; refine AL.rm ?_; (iterate 3 refine AL.rf ?_); refine AL.r qt ?_; refine AL.nil (AW.cond_t rfl (AW.g (AL.ra ?_))); refine AL.nil (AW.ret (r1t ?_)); refine sb ?_
     grind [jBz, List.isEmpty_iff, List.length_eq_zero_iff]
    refine AL.n ?_; refine AL.ro (qa jDL) ?_; refine AL.ro (ql ag_2) ?_; refine AL.ro qb ?_; refine AL.r qf ?_; refine AL.rm ?_; refine AL.fk (d := 24) rfl (fun h24 => ?_) (fun h24 => ?_)
    ·refine AL.n ?_; (iterate 3 refine AL.rf ?_); refine AL.r qt ?_; refine AL.rm ?_; (iterate 4 refine AL.rf ?_); refine AL.r qt ?_; refine AL.rm ?_; (iterate 3 refine AL.rf ?_); refine AL.r qt ?_; refine AL.nil (AW.cond_t rfl (AW.g (AL.ra ?_))); refine AL.nil (AW.ret (r1t ?_)); refine sb ?_
     grind [jBz, List.isEmpty_iff, List.length_eq_zero_iff]
    refine AL.n ?_; refine AL.ro (qa jDL) ?_; refine AL.ro (ql ag_2) ?_; refine AL.ro qb ?_; refine AL.r qf ?_; refine AL.rm ?_; refine AL.fk (d := 29) rfl (fun h29 => ?_) (fun h29 => ?_)
    ·refine AL.n ?_; (iterate 4 refine AL.rf ?_); refine AL.r qt ?_; refine AL.rm ?_; (iterate 3 refine AL.rf ?_); refine AL.r qt ?_; refine AL.nil (AW.cond_t rfl (AW.g (AL.ra ?_))); refine AL.nil (AW.ret (r1t ?_)); refine sb ?_
     grind [jBz, List.isEmpty_iff, List.length_eq_zero_iff]
    refine AL.n ?_; refine AL.ro (qa jEE) ?_; refine AL.ro (ql ag_9) ?_; refine AL.on rfl rfl rfl (AOpB.op (jAb (jCP o.cart) rfl (by kernel_rfl) rfl (none) ?_)); rintro r rfl; refine AL.n ?_; refine AL.ro qu ?_; refine AL.r qf ?_; refine AL.rm ?_; refine AL.fk (d := 35) rfl (fun h35 => ?_) (fun h35 => ?_)
    ·refine AL.n ?_; (iterate 3 refine AL.rf ?_); refine AL.r qt ?_; refine AL.nil (AW.cond_t rfl (AW.g (AL.ra ?_))); refine AL.nil (AW.ret (r1t ?_)); refine sb ?_
     grind [jBz, List.isEmpty_iff, List.length_eq_zero_iff]
    refine AL.n ?_; refine AL.ro (qN jAZ) ?_; refine AL.on rfl rfl rfl (AOpB.op (jAb (jLi o) rfl (by kernel_rfl) rfl (none) ?_)); rintro r rfl; refine AL.n ?_; refine AL.ro qu ?_; refine AL.r qf ?_; refine AL.nil (AW.cd rfl (fun h39 => ?_) (fun h39 => ?_))
    ·refine AW.g (AL.ra ?_); refine AL.nil (AW.ret (r1t ?_)); refine sb ?_
     grind [jBz, List.isEmpty_iff, List.length_eq_zero_iff]
    refine AW.skip ?_; refine ⟨(), by refine ⟨by assumption, ?_, by omega, by omega, by assumption, by assumption⟩; simp_all [jAP], wk, sk⟩
   refine AL.n ?_; (iterate 4 refine AL.rf ?_); refine AL.ro (jAs rfl rfl rfl) ?_; refine AL.r qf ?_; refine AL.rm ?_; refine AL.ro (qa jDL) ?_; refine AL.ro (ql ag_2) ?_; refine AL.ro qb ?_; refine AL.r qf ?_; refine AL.rm ?_; refine AL.fk (d := 24) rfl (fun h24 => ?_) (fun h24 => ?_)
   ·refine AL.n ?_; (iterate 3 refine AL.rf ?_); refine AL.r qt ?_; refine AL.rm ?_; (iterate 4 refine AL.rf ?_); refine AL.r qt ?_; refine AL.rm ?_; (iterate 3 refine AL.rf ?_); refine AL.r qt ?_; refine AL.nil (AW.cond_t rfl (AW.g (AL.ra ?_))); refine AL.nil (AW.ret (r1t ?_)); refine sb ?_
    grind [jBz, List.isEmpty_iff, List.length_eq_zero_iff]
   refine AL.n ?_; refine AL.ro (qa jDL) ?_; refine AL.ro (ql ag_2) ?_; refine AL.ro qb ?_; refine AL.r qf ?_; refine AL.rm ?_; refine AL.fk (d := 29) rfl (fun h29 => ?_) (fun h29 => ?_)
   ·refine AL.n ?_; (iterate 4 refine AL.rf ?_); refine AL.r qt ?_; refine AL.rm ?_; (iterate 3 refine AL.rf ?_); refine AL.r qt ?_; refine AL.nil (AW.cond_t rfl (AW.g (AL.ra ?_))); refine AL.nil (AW.ret (r1t ?_)); refine sb ?_
    grind [jBz, List.isEmpty_iff, List.length_eq_zero_iff]
   refine AL.n ?_; refine AL.ro (qa jEE) ?_; refine AL.ro (ql ag_9) ?_; refine AL.on rfl rfl rfl (AOpB.op (jAb (jCP o.cart) rfl (by kernel_rfl) rfl (none) ?_)); rintro r rfl; refine AL.n ?_; refine AL.ro qu ?_; refine AL.r qf ?_; refine AL.rm ?_; refine AL.fk (d := 35) rfl (fun h35 => ?_) (fun h35 => ?_)
   ·refine AL.n ?_; (iterate 3 refine AL.rf ?_); refine AL.r qt ?_; refine AL.nil (AW.cond_t rfl (AW.g (AL.ra ?_))); refine AL.nil (AW.ret (r1t ?_)); refine sb ?_
    grind [jBz, List.isEmpty_iff, List.length_eq_zero_iff]
   refine AL.n ?_; refine AL.ro (qN jAZ) ?_; refine AL.on rfl rfl rfl (AOpB.op (jAb (jLi o) rfl (by kernel_rfl) rfl (none) ?_)); rintro r rfl; refine AL.n ?_; refine AL.ro qu ?_; refine AL.r qf ?_; refine AL.nil (AW.cd rfl (fun h39 => ?_) (fun h39 => ?_))
   ·refine AW.g (AL.ra ?_); refine AL.nil (AW.ret (r1t ?_)); refine sb ?_
    grind [jBz, List.isEmpty_iff, List.length_eq_zero_iff]
   refine AW.skip ?_; refine ⟨(), by refine ⟨by assumption, ?_, by omega, by omega, by assumption, by assumption⟩; simp_all [jAP], wk, sk⟩
  rintro u39 gs39 hJ39; refine AW.nm ?_
  (try dsimp only at hJ39)
  change AW _ _ _ _ _; refine AW.seq (AW.g (AL.r (qa jCy) ?_)); refine AL.r (ql ag_3) ?_; refine AL.r qb ?_; refine AL.nil (AW.cd rfl (fun h42 => ?_) (fun h42 => ?_))
  ·refine AW.g (AL.r (qa jBu) ?_); refine AL.r (ql ag_9) ?_; refine AL.r (jBi rfl rfl rfl) ?_; refine AL.rm ?_; refine AL.fk (d := 46) rfl (fun h46 => ?_) (fun h46 => ?_)
   ·refine AL.n ?_; refine AL.ro (qN jAZ) ?_; refine AL.on rfl rfl rfl (AOpB.op (jAb (jJH o) rfl (by kernel_rfl) rfl (none) ?_)); rintro r rfl; refine AL.n ?_; refine AL.r qt ?_; refine AL.ra ?_; refine AL.nil (AW.ret (r1t ?_)); refine sb ?_
    grind [jBz, List.isEmpty_iff, List.length_eq_zero_iff]
   refine AL.n ?_; (iterate 2 refine AL.rf ?_); refine AL.r qf ?_; refine AL.ra ?_; refine AL.nil (AW.ret (r1t ?_)); refine sb ?_
   grind [jBz, List.isEmpty_iff, List.length_eq_zero_iff]
  refine AW.skip (AW.seq (AW.g (AL.r (qa jCy) ?_))); refine AL.r (ql ag_3) ?_; refine AL.r qb ?_; refine AL.nil (AW.cd rfl (fun h52 => ?_) (fun h52 => ?_))
  ·refine AW.g (AL.r (qa jBu) ?_); refine AL.r (ql ag_9) ?_; refine AL.cl (jCP o.item) ?_; refine AL.n ?_; refine AL.rm ?_; refine AL.fk (d := 56) rfl (fun h56 => ?_) (fun h56 => ?_)
   ·refine AL.n ?_; refine AL.ro (qN jAZ) ?_; refine AL.on rfl rfl rfl (AOpB.op (jAb (jJH o) rfl (by kernel_rfl) rfl (none) ?_)); rintro r rfl; refine AL.n ?_; refine AL.r qt ?_; refine AL.rm ?_; refine AL.fk (d := 60) rfl (fun h60 => ?_) (fun h60 => ?_)
    ·refine AL.n ?_; refine AL.ro (qa jBh) ?_; refine AL.ro (ql jCs) ?_; refine AL.ro (lN jB5) ?_; refine AL.ro qb ?_; refine AL.r qt ?_; refine AL.ra ?_; refine AL.nil (AW.ret (r1t ?_)); refine sb ?_
     grind [jBz, List.isEmpty_iff, List.length_eq_zero_iff]
    refine AL.n ?_; (iterate 4 refine AL.rf ?_); refine AL.r qf ?_; refine AL.ra ?_; refine AL.nil (AW.ret (r1t ?_)); refine sb ?_
    grind [jBz, List.isEmpty_iff, List.length_eq_zero_iff]
   refine AL.n ?_; (iterate 2 refine AL.rf ?_); refine AL.r qf ?_; refine AL.rm ?_; (iterate 4 refine AL.rf ?_); refine AL.r qf ?_; refine AL.ra ?_; refine AL.nil (AW.ret (r1t ?_)); refine sb ?_
   grind [jBz, List.isEmpty_iff, List.length_eq_zero_iff]
  refine AW.skip (AW.seq (AW.g (AL.r (qa jCy) ?_))); refine AL.r (ql ag_3) ?_; refine AL.r qb ?_; refine AL.nil (AW.cd rfl (fun h68 => ?_) (fun h68 => ?_))
  ·refine AW.g (AL.r (qa jBu) ?_); refine AL.r (ql ag_9) ?_; refine AL.cl (jCP o.item) ?_; refine AL.n ?_; refine AL.rm ?_; refine AL.fk (d := 72) rfl (fun h72 => ?_) (fun h72 => ?_)
   ·refine AL.n ?_; refine AL.ro (qN jAZ) ?_; refine AL.on rfl rfl rfl (AOpB.op (jAb (jJH o) rfl (by kernel_rfl) rfl (none) ?_)); rintro r rfl; refine AL.n ?_; refine AL.r qt ?_; refine AL.ra ?_; refine AL.nil (AW.ret (r1t ?_)); refine sb ?_
    grind [jBz, List.isEmpty_iff, List.length_eq_zero_iff]
   refine AL.n ?_; (iterate 2 refine AL.rf ?_); refine AL.r qf ?_; refine AL.ra ?_; refine AL.nil (AW.ret (r1t ?_)); refine sb ?_
   grind [jBz, List.isEmpty_iff, List.length_eq_zero_iff]
  refine AW.skip (AW.join (ι := Unit) [2, 76, 77, 78, 79, 80, 81, 82, 83, 84, 85, 86, 87, 88, 89, 90, 91, 92, 93, 94, 95, 96, 97, 98, 99, 100, 101, 102] (fun u102 => []) [] (fun u102 => []) (fun u102 => jCl o.at_ = true ∧ (!decide (o.at_.scope = 1) || jBB o.item) = true ∧ (!decide (o.at_.scope = 0) || o.item.isEmpty) = true) ?_ ?_)
  ·refine AW.g (AL.r (qa jBR) ?_); refine AL.r (qN jBa) ?_; refine AL.cl (jH4 o.at_) ?_; refine AL.n ?_; refine AL.r qu ?_; refine AL.rm ?_; refine AL.fk (d := 80) rfl (fun h80 => ?_) (fun h80 => ?_)
   ·refine AL.n ?_; (iterate 5 refine AL.rf ?_); (iterate 4 refine AL.ru ?_); refine AL.rf ?_; refine AL.r qt ?_; refine AL.rm ?_; (iterate 5 refine AL.rf ?_); (iterate 3 refine AL.ru ?_); refine AL.rf ?_; refine AL.r qt ?_; refine AL.nil (AW.cond_t rfl (AW.g (AL.ra ?_))); refine AL.nil (AW.ret (r1t ?_)); refine sb ?_
    grind [jBz, List.isEmpty_iff, List.length_eq_zero_iff]
   refine AL.n ?_; refine AL.ro (qa jBR) ?_; refine AL.ro (qa jB7) ?_; refine AL.ro (ql ag_3) ?_; refine AL.ro qb ?_; refine AL.ro (jAa rfl rfl) ?_; refine AL.fk (d := 85) rfl (fun h85 => ?_) (fun h85 => ?_)
   ·refine AL.n ?_; refine AL.ro (qa jBu) ?_; refine AL.ro (ql ag_9) ?_; refine AL.on rfl rfl rfl (AOpB.op (jAb (jCP o.item) rfl (by kernel_rfl) rfl (none) ?_)); rintro r rfl; refine AL.n ?_; refine AL.ro qu ?_; refine AL.ro (jAm rfl rfl rfl) ?_; refine AL.r qf ?_; refine AL.rm ?_; refine AL.fk (d := 92) rfl (fun h92 => ?_) (fun h92 => ?_)
    ·refine AL.n ?_; (iterate 5 refine AL.rf ?_); (iterate 3 refine AL.ru ?_); refine AL.rf ?_; refine AL.r qt ?_; refine AL.nil (AW.cond_t rfl (AW.g (AL.ra ?_))); refine AL.nil (AW.ret (r1t ?_)); refine sb ?_
     grind [jBz, List.isEmpty_iff, List.length_eq_zero_iff]
    refine AL.n ?_; refine AL.ro (qa jBR) ?_; refine AL.ro (qa jB7) ?_; refine AL.ro (ql ag_3) ?_; refine AL.ro qb ?_; refine AL.ro (jAa rfl rfl) ?_; refine AL.fk (d := 97) rfl (fun h97 => ?_) (fun h97 => ?_)
    ·refine AL.n ?_; refine AL.ro (qa jBu) ?_; refine AL.ro (ql ag_9) ?_; refine AL.ro (jEc rfl rfl rfl) ?_; refine AL.ro (jAm rfl rfl rfl) ?_; refine AL.r qf ?_; refine AL.nil (AW.cd rfl (fun h102 => ?_) (fun h102 => ?_))
     ·refine AW.g (AL.ra ?_); refine AL.nil (AW.ret (r1t ?_)); refine sb ?_
      grind [jBz, List.isEmpty_iff, List.length_eq_zero_iff]
     refine AW.skip ?_; refine ⟨(), by grind, wk, sk⟩
    refine AL.n ?_; (iterate 3 refine AL.rf ?_); refine AL.ro (jAs rfl rfl rfl) ?_; refine AL.r qf ?_; refine AL.nil ?_; change AW _ _ _ _ _; refine AW.cond_f rfl ?_; refine AW.skip ?_; refine ⟨(), by grind, wk, sk⟩
   refine AL.n ?_; (iterate 4 refine AL.rf ?_); refine AL.ro (jAs rfl rfl rfl) ?_; refine AL.r qf ?_; refine AL.rm ?_; refine AL.ro (qa jBR) ?_; refine AL.ro (qa jB7) ?_; refine AL.ro (ql ag_3) ?_; refine AL.ro qb ?_; refine AL.ro (jAa rfl rfl) ?_; refine AL.fk (d := 97) rfl (fun h97 => ?_) (fun h97 => ?_)
   ·refine AL.n ?_; refine AL.ro (qa jBu) ?_; refine AL.ro (ql ag_9) ?_; refine AL.ro (jEc rfl rfl rfl) ?_; refine AL.ro (jAm rfl rfl rfl) ?_; refine AL.r qf ?_; refine AL.nil (AW.cd rfl (fun h102 => ?_) (fun h102 => ?_))
    ·refine AW.g (AL.ra ?_); refine AL.nil (AW.ret (r1t ?_)); refine sb ?_
     grind [jBz, List.isEmpty_iff, List.length_eq_zero_iff]
    refine AW.skip ?_; refine ⟨(), by grind, wk, sk⟩
   refine AL.n ?_; (iterate 3 refine AL.rf ?_); refine AL.ro (jAs rfl rfl rfl) ?_; refine AL.r qf ?_; refine AL.nil ?_; change AW _ _ _ _ _; refine AW.cond_f rfl ?_; refine AW.skip ?_; refine ⟨(), by grind, wk, sk⟩
  rintro u102 gs102 hJ102; refine AW.nm ?_
  (try dsimp only at hJ102)
  change AW _ _ _ _ _; refine AW.seq (AW.g (AL.r (qa jCy) ?_)); refine AL.r (ql ag_3) ?_; refine AL.r qb ?_; refine AL.nil (AW.cd rfl (fun h105 => ?_) (fun h105 => ?_))
  ·refine AW.g (AL.r (qa jDN) ?_); refine AL.r (ql ag_4) ?_; refine AL.r qu ?_; refine AL.rm ?_; refine AL.fk (d := 109) rfl (fun h109 => ?_) (fun h109 => ?_)
   ·refine AL.n ?_; refine AL.ro (qa jDQ) ?_; refine AL.ro (ql ag_9) ?_; refine AL.ro (jBi rfl rfl rfl) ?_; refine AL.r qt ?_; refine AL.rm ?_; refine AL.fk (d := 114) rfl (fun h114 => ?_) (fun h114 => ?_)
    ·refine AL.n ?_; refine AL.ro (qa jBh) ?_; refine AL.ro (ql jCs) ?_; refine AL.ro (lN jB5) ?_; refine AL.ro qb ?_; refine AL.r qt ?_; refine AL.rm ?_; refine AL.fk (d := 120) rfl (fun h120 => ?_) (fun h120 => ?_)
     ·refine AL.n ?_; refine AL.ro (qa jDe) ?_; refine AL.ro (ql ag_2) ?_; refine AL.ro qb ?_; refine AL.r qt ?_; refine AL.rm ?_; refine AL.fk (d := 125) rfl (fun h125 => ?_) (fun h125 => ?_)
      ·refine AL.n ?_; refine AL.ro (qa jDe) ?_; refine AL.ro (ql ag_2) ?_; refine AL.ro qb ?_; refine AL.r qt ?_; refine AL.ra ?_; refine AL.nil (AW.ret (r1t ?_)); refine sb ?_
       grind [jBz, List.isEmpty_iff, List.length_eq_zero_iff]
      refine AL.n ?_; (iterate 3 refine AL.rf ?_); refine AL.r qf ?_; refine AL.ra ?_; refine AL.nil (AW.ret (r1t ?_)); refine sb ?_
      grind [jBz, List.isEmpty_iff, List.length_eq_zero_iff]
     refine AL.n ?_; (iterate 3 refine AL.rf ?_); refine AL.r qf ?_; refine AL.rm ?_; (iterate 3 refine AL.rf ?_); refine AL.r qf ?_; refine AL.ra ?_; refine AL.nil (AW.ret (r1t ?_)); refine sb ?_
     grind [jBz, List.isEmpty_iff, List.length_eq_zero_iff]
    refine AL.n ?_; (iterate 4 refine AL.rf ?_); (iterate 2 (refine AL.r qf ?_; refine AL.rm ?_; (iterate 3 refine AL.rf ?_))); refine AL.r qf ?_; refine AL.ra ?_; refine AL.nil (AW.ret (r1t ?_)); refine sb ?_
    grind [jBz, List.isEmpty_iff, List.length_eq_zero_iff]
   refine AL.n ?_; (iterate 3 refine AL.rf ?_); refine AL.r qf ?_; refine AL.rm ?_; (iterate 4 refine AL.rf ?_); (iterate 2 (refine AL.r qf ?_; refine AL.rm ?_; (iterate 3 refine AL.rf ?_))); refine AL.r qf ?_; refine AL.ra ?_; refine AL.nil (AW.ret (r1t ?_)); refine sb ?_
   grind [jBz, List.isEmpty_iff, List.length_eq_zero_iff]
  refine AW.skip (AW.g (AL.r (qa jCy) ?_)); refine AL.r (ql ag_3) ?_; refine AL.r qb ?_; refine AL.rm ?_; refine AL.fk (d := 133) rfl (fun h133 => ?_) (fun h133 => ?_)
  ·refine AL.n ?_; refine AL.ro (qa jDe) ?_; refine AL.ro (ql ag_2) ?_; refine AL.ro qb ?_; refine AL.r qt ?_; refine AL.rm ?_; refine AL.fk (d := 138) rfl (fun h138 => ?_) (fun h138 => ?_)
   ·refine AL.n ?_; refine AL.ro (qa jDN) ?_; refine AL.ro (ql ag_4) ?_; refine AL.ro (jAa rfl rfl) ?_; refine AL.fk (d := 141) rfl (fun h141 => ?_) (fun h141 => ?_)
    ·refine AL.n ?_; refine AL.ro (qa jDQ) ?_; refine AL.ro (ql ag_9) ?_; refine AL.ro (jBF rfl jDb rfl) ?_; refine AL.ro qb ?_; refine AL.ro (jAm rfl rfl rfl) ?_; refine AL.ro (jAa rfl rfl) ?_; refine AL.fk (d := 147) rfl (fun h147 => ?_) (fun h147 => ?_)
     ·refine AL.n ?_; (iterate 4 refine AL.rf ?_); (iterate 3 refine AL.ru ?_); refine AL.rf ?_; refine AL.ro (jAm rfl rfl rfl) ?_; refine AL.r qt ?_; refine AL.ra ?_; refine AL.nil (AW.ret (r1t ?_)); refine sb ?_
      grind [jBz, List.isEmpty_iff, List.length_eq_zero_iff]
     refine AL.n ?_; refine AL.ro (qa jDN) ?_; refine AL.ro (ql ag_4) ?_; refine AL.ro qu ?_; refine AL.ro (jAa rfl rfl) ?_; refine AL.fk (d := 151) rfl (fun h151 => ?_) (fun h151 => ?_)
     ·refine AL.n ?_; refine AL.ro (qa jDQ) ?_; refine AL.ro (ql ag_9) ?_; refine AL.ro (jBi rfl rfl rfl) ?_; refine AL.ro (jAm rfl rfl rfl) ?_; refine AL.ro (jAs rfl rfl rfl) ?_; refine AL.r qt ?_; refine AL.ra ?_; refine AL.nil (AW.ret (r1t ?_)); refine sb ?_
      grind [jBz, List.isEmpty_iff, List.length_eq_zero_iff]
     refine AL.n ?_; (iterate 3 refine AL.rf ?_); refine AL.ro (jAs rfl rfl rfl) ?_; refine AL.ro (jAs rfl rfl rfl) ?_; refine AL.r qt ?_; refine AL.ra ?_; refine AL.nil (AW.ret (r1t ?_)); refine sb ?_
     grind [jBz, List.isEmpty_iff, List.length_eq_zero_iff]
    refine AL.n ?_; (iterate 4 refine AL.rf ?_); refine AL.ro (jAs rfl rfl rfl) ?_; refine AL.ro (jAa rfl rfl) ?_; refine AL.ro (qa jDN) ?_; refine AL.ro (ql ag_4) ?_; refine AL.ro qu ?_; refine AL.ro (jAa rfl rfl) ?_; refine AL.fk (d := 151) rfl (fun h151 => ?_) (fun h151 => ?_)
    ·refine AL.n ?_; refine AL.ro (qa jDQ) ?_; refine AL.ro (ql ag_9) ?_; refine AL.ro (jBi rfl rfl rfl) ?_; refine AL.ro (jAm rfl rfl rfl) ?_; refine AL.ro (jAs rfl rfl rfl) ?_; refine AL.r qt ?_; refine AL.ra ?_; refine AL.nil (AW.ret (r1t ?_)); refine sb ?_
     grind [jBz, List.isEmpty_iff, List.length_eq_zero_iff]
    refine AL.n ?_; (iterate 3 refine AL.rf ?_); refine AL.ro (jAs rfl rfl rfl) ?_; refine AL.ro (jAs rfl rfl rfl) ?_; refine AL.r qt ?_; refine AL.ra ?_; refine AL.nil (AW.ret (r1t ?_)); refine sb ?_
    grind [jBz, List.isEmpty_iff, List.length_eq_zero_iff]
   refine AL.n ?_; (iterate 3 refine AL.rf ?_); (iterate 4 refine AL.ru ?_); (iterate 2 refine AL.rf ?_); (iterate 8 refine AL.ru ?_); refine AL.rf ?_; refine AL.r qf ?_; refine AL.ra ?_; refine AL.nil (AW.ret (r1t ?_)); refine sb ?_
   grind [jBz, List.isEmpty_iff, List.length_eq_zero_iff]
  refine AL.n ?_; (iterate 3 refine AL.rf ?_); refine AL.r qf ?_; refine AL.rm ?_; (iterate 3 refine AL.rf ?_); (iterate 4 refine AL.ru ?_); (iterate 2 refine AL.rf ?_); (iterate 8 refine AL.ru ?_); refine AL.rf ?_; refine AL.r qf ?_; refine AL.ra ?_; refine AL.nil (AW.ret (r1t ?_)); refine sb ?_
  grind [jBz, List.isEmpty_iff, List.length_eq_zero_iff]
end Go.Proofs.YtlapcfnmmpbeeaaGreat
