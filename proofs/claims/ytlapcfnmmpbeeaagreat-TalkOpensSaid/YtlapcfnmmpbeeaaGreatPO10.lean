/- A part of a proof. -/
import Derived.Test.YtlapcfnmmpbeeaaGreatPO09
set_option linter.unusedSimpArgs false
set_option linter.unusedVariables false
namespace Go.Proofs.YtlapcfnmmpbeeaaGreat
set_option maxRecDepth 100000
open Go.RowKit
def jBk (f : FldD) : Bool := jCl f.at_ &&
  (if f.kind = 1 then f.dflt == [] && f.cases == [] && decide (1 ≤ f.worth) && decide (f.worth ≤ 1048576)
   else if f.kind = 2 then decide (f.dflt.length ≤ 40) && f.cases == [] && f.worth == 0
   else if f.kind = 3 then jD1 f.cases && f.cases.contains f.dflt && f.worth == 0
   else if f.kind = 4 then f.dflt == [] && f.cases == [] && f.worth == 0 else false)
theorem jDv {α : Type} [DecidableEq α] (a b : α) : (a == b) = decide (a = b) := by by_cases h : a = b <;> simp [h]
theorem len0 {α : Type} [BEq α] [LawfulBEq α] (l : List α) : ((l.length : Int) == 0) = (l == []) := by cases l <;> simp; omega
theorem jJu (f : FldD) : AC Tryz.prog 124 [f.av] (fun x => x = .s (AB (jBk f))) := by
  refine AC.of' 74 1 Tryz.func124 rfl ?_; change AW _ _ _ _ [TK.mk 0 .off]; refine AW.g (AL.oq (AOpB.op (oB 0 ?_))); refine AL.n ?_; refine AL.ra ?_; refine AL.nil (AW.seq (AW.g (AL.r (qa jFA) ?_))); refine AL.r (qN jBa) ?_; refine AL.cl (jJE f.at_) ?_; refine AL.n ?_; refine AL.r qu ?_; refine AL.nil (AW.cd rfl (fun h7 => ?_) (fun h7 => ?_))
  ·refine AW.g (AL.ra ?_); refine AL.nil (AW.ret (r1t ?_))
   (simp_all [jBk, len0] <;> (intros; omega))
  refine AW.skip (AW.g (AL.r (qa jBJ) ?_)); refine AL.r (ql jDY) ?_; refine AL.r (lN jCz) ?_; refine AL.r qb ?_; refine AL.ra ?_; refine AL.nil (AW.seq (AW.g (AL.r (qa jDq) ?_))); refine AL.r (ql ag_3) ?_; refine AL.nil (AW.block (AW.g (AL.r qb ?_))); refine AL.ra ?_; refine AL.nil (AW.cd rfl (fun h14 => ?_) (fun h14 => ?_))
  ·refine AW.g (AL.r (qa jC3) ?_); refine AL.r (ql ag_9) ?_; refine AL.r (jBi rfl rfl rfl) ?_; refine AL.rm ?_; refine AL.fk (d := 19) rfl (fun h19 => ?_) (fun h19 => ?_)
   ·refine AL.n ?_; refine AL.ro (jAa rfl rfl) ?_; refine AL.r qt ?_; refine AL.rm ?_; refine AL.fk (d := 22) rfl (fun h22 => ?_) (fun h22 => ?_)
    ·refine AL.n ?_; refine AL.ro (qa jCX) ?_; refine AL.ro (ql ag_2) ?_; refine AL.ro qb ?_; refine AL.r qt ?_; refine AL.rm ?_; refine AL.fk (d := 27) rfl (fun h27 => ?_) (fun h27 => ?_)
     ·refine AL.n ?_; refine AL.ro (qa jCX) ?_; refine AL.ro (ql ag_2) ?_; refine AL.ro qb ?_; refine AL.r qt ?_; refine AL.ra ?_; refine AL.nil (AW.ret (r1t ?_))
      (simp_all [jBk, len0] <;> (intros; omega))
     refine AL.n ?_; (iterate 3 refine AL.rf ?_); refine AL.r qf ?_; refine AL.ra ?_; refine AL.nil (AW.ret (r1t ?_))
     (simp_all [jBk, len0] <;> (intros; omega))
    refine AL.n ?_; (iterate 3 refine AL.rf ?_); refine AL.r qf ?_; refine AL.rm ?_; (iterate 3 refine AL.rf ?_); refine AL.r qf ?_; refine AL.ra ?_; refine AL.nil (AW.ret (r1t ?_))
    (simp_all [jBk, len0] <;> (intros; omega))
   refine AL.n ?_; refine AL.rf ?_; (iterate 2 (refine AL.r qf ?_; refine AL.rm ?_; (iterate 3 refine AL.rf ?_))); refine AL.r qf ?_; refine AL.ra ?_; refine AL.nil (AW.ret (r1t ?_))
   (simp_all [jBk, len0] <;> (intros; omega))
  refine AW.g (AL.r qb ?_); refine AL.ra ?_; refine AL.nil (AW.cd rfl (fun h32 => ?_) (fun h32 => ?_))
  ·refine AW.g (AL.r (qa jC3) ?_); refine AL.r (ql ag_9) ?_; refine AL.cl (jHs _) ?_; refine AL.n ?_; refine AL.rm ?_; refine AL.fk (d := 37) rfl (fun h37 => ?_) (fun h37 => ?_)
   ·refine AL.n ?_; refine AL.ro (jAa rfl rfl) ?_; refine AL.r qt ?_; refine AL.rm ?_; refine AL.fk (d := 40) rfl (fun h40 => ?_) (fun h40 => ?_)
    ·refine AL.n ?_; refine AL.ro (qa jCX) ?_; refine AL.ro (ql ag_2) ?_; refine AL.ro qb ?_; refine AL.r qt ?_; refine AL.ra ?_; refine AL.nil (AW.ret (r1t ?_))
     (simp_all [jBk, len0] <;> (intros; omega))
    refine AL.n ?_; (iterate 3 refine AL.rf ?_); refine AL.r qf ?_; refine AL.ra ?_; refine AL.nil (AW.ret (r1t ?_))
    (simp_all [jBk, len0] <;> (intros; omega))
   refine AL.n ?_; refine AL.rf ?_; refine AL.r qf ?_; refine AL.rm ?_; (iterate 3 refine AL.rf ?_); refine AL.r qf ?_; refine AL.ra ?_; refine AL.nil (AW.ret (r1t ?_))
   (simp_all [jBk, len0] <;> (intros; omega))
  refine AW.g (AL.r qb ?_); refine AL.ra ?_; refine AL.nil (AW.cd rfl (fun h45 => ?_) (fun h45 => ?_))
  ·refine AW.g (AL.r (qa jBJ) ?_); refine AL.r (ql jDY) ?_; refine AL.cl (cases_c _) ?_; refine AL.n ?_; refine AL.rm ?_; refine AL.fk (d := 50) rfl (fun h50 => ?_) (fun h50 => ?_)
   ·refine AL.n ?_; refine AL.ro (qa jBJ) ?_; refine AL.ro (ql jDY) ?_; refine AL.ro (qa jC3) ?_; refine AL.ro (ql ag_9) ?_; refine AL.on rfl rfl rfl (AOpB.op (jAb (jHk _ _) rfl (by kernel_rfl) rfl (none) ?_)); rintro r rfl; refine AL.n ?_; refine AL.r qt ?_; refine AL.rm ?_; refine AL.fk (d := 57) rfl (fun h57 => ?_) (fun h57 => ?_)
    ·refine AL.n ?_; refine AL.ro (qa jCX) ?_; refine AL.ro (ql ag_2) ?_; refine AL.ro qb ?_; refine AL.r qt ?_; refine AL.ra ?_; refine AL.nil (AW.ret (r1t ?_))
     (simp_all [jBk, len0] <;> (intros; omega))
    refine AL.n ?_; (iterate 3 refine AL.rf ?_); refine AL.r qf ?_; refine AL.ra ?_; refine AL.nil (AW.ret (r1t ?_))
    (simp_all [jBk, len0] <;> (intros; omega))
   refine AL.n ?_; (iterate 5 refine AL.rf ?_); refine AL.r qf ?_; refine AL.rm ?_; (iterate 3 refine AL.rf ?_); refine AL.r qf ?_; refine AL.ra ?_; refine AL.nil (AW.ret (r1t ?_))
   (simp_all [jBk, len0] <;> (intros; omega))
  refine AW.g (AL.r qb ?_); refine AL.ra ?_; refine AL.nil (AW.cd rfl (fun h62 => ?_) (fun h62 => ?_))
  ·refine AW.g (AL.r (qa jC3) ?_); refine AL.r (ql ag_9) ?_; refine AL.r (jBi rfl rfl rfl) ?_; refine AL.rm ?_; refine AL.fk (d := 67) rfl (fun h67 => ?_) (fun h67 => ?_)
   ·refine AL.n ?_; refine AL.ro (jAa rfl rfl) ?_; refine AL.r qt ?_; refine AL.rm ?_; refine AL.fk (d := 70) rfl (fun h70 => ?_) (fun h70 => ?_)
    ·refine AL.n ?_; refine AL.ro (qa jCX) ?_; refine AL.ro (ql ag_2) ?_; refine AL.ro qb ?_; refine AL.r qt ?_; refine AL.ra ?_; refine AL.nil (AW.ret (r1t ?_))
     (simp_all [jBk, len0] <;> (intros; omega))
    refine AL.n ?_; (iterate 3 refine AL.rf ?_); refine AL.r qf ?_; refine AL.ra ?_; refine AL.nil (AW.ret (r1t ?_))
    (simp_all [jBk, len0] <;> (intros; omega))
   refine AL.n ?_; refine AL.rf ?_; refine AL.r qf ?_; refine AL.rm ?_; (iterate 3 refine AL.rf ?_); refine AL.r qf ?_; refine AL.ra ?_; refine AL.nil (AW.ret (r1t ?_))
   (simp_all [jBk, len0] <;> (intros; omega))
  refine AW.skip (AW.g (AL.ra ?_)); refine AL.nil (AW.ret (r1t ?_))
  (simp_all [jBk, len0] <;> (intros; omega))
theorem same_c (f g : FldD) : AC Tryz.prog 132 [f.av, g.av] (fun x => x = .s (AB (decide (f = g)))) := by
  refine AC.of' 36 2 Tryz.func132 rfl ?_; change AW _ _ _ _ [TK.mk 0 .off, TK.mk 0 .off]; refine AW.g (AL.oq (AOpB.op (oB 0 ?_))); refine AL.n ?_; refine AL.oq (AOpB.op (oB 1 ?_)); refine AL.n ?_; refine AL.ra ?_; refine AL.nil (AW.g ?_); (iterate 2 (refine AL.r (qa jFA) ?_; refine AL.r (qN jBa) ?_)); refine AL.r (jCW rfl rfl rfl) ?_; refine AL.rm ?_; refine AL.fk (d := 10) rfl (fun h10 => ?_) (fun h10 => ?_)
  ·refine AL.n ?_; (iterate 2 (refine AL.ro (qa jDq) ?_; refine AL.ro (ql ag_3) ?_)); refine AL.ro qb ?_; refine AL.r qt ?_; refine AL.rm ?_; refine AL.fk (d := 17) rfl (fun h17 => ?_) (fun h17 => ?_)
   ·refine AL.n ?_; (iterate 2 (refine AL.ro (qa jC3) ?_; refine AL.ro (ql ag_9) ?_)); refine AL.ro (jBi rfl rfl rfl) ?_; refine AL.r qt ?_; refine AL.rm ?_; refine AL.fk (d := 24) rfl (fun h24 => ?_) (fun h24 => ?_)
    ·refine AL.n ?_; (iterate 2 (refine AL.ro (qa jBJ) ?_; refine AL.ro (ql jDY) ?_)); refine AL.on rfl rfl rfl (AOpB.op (jAb (equal_c _ _) rfl (by kernel_rfl) rfl (none) ?_)); rintro r rfl; refine AL.n ?_; refine AL.r qt ?_; refine AL.rm ?_; refine AL.fk (d := 31) rfl (fun h31 => ?_) (fun h31 => ?_)
     ·refine AL.n ?_; (iterate 2 (refine AL.ro (qa jCX) ?_; refine AL.ro (ql ag_2) ?_)); refine AL.ro qb ?_; refine AL.r qt ?_; refine AL.ra ?_; refine AL.nil (AW.ret (r1t ?_))
      (obtain ⟨⟨s1, g1, n1⟩, k1, d1, c1, w1⟩ := f; obtain ⟨⟨s2, g2, n2⟩, k2, d2, c2, w2⟩ := g; simp_all [jDv])
     refine AL.n ?_; (iterate 5 refine AL.rf ?_); refine AL.r qf ?_; refine AL.ra ?_; refine AL.nil (AW.ret (r1t ?_))
     (obtain ⟨⟨s1, g1, n1⟩, k1, d1, c1, w1⟩ := f; obtain ⟨⟨s2, g2, n2⟩, k2, d2, c2, w2⟩ := g; simp_all [jDv])
    refine AL.n ?_; (iterate 5 refine AL.rf ?_); refine AL.r qf ?_; refine AL.rm ?_; (iterate 5 refine AL.rf ?_); refine AL.r qf ?_; refine AL.ra ?_; refine AL.nil (AW.ret (r1t ?_))
    (obtain ⟨⟨s1, g1, n1⟩, k1, d1, c1, w1⟩ := f; obtain ⟨⟨s2, g2, n2⟩, k2, d2, c2, w2⟩ := g; simp_all [jDv])
   refine AL.n ?_; (iterate 2 ((iterate 5 refine AL.rf ?_); refine AL.r qf ?_; refine AL.rm ?_)); (iterate 5 refine AL.rf ?_); refine AL.r qf ?_; refine AL.ra ?_; refine AL.nil (AW.ret (r1t ?_))
   (obtain ⟨⟨s1, g1, n1⟩, k1, d1, c1, w1⟩ := f; obtain ⟨⟨s2, g2, n2⟩, k2, d2, c2, w2⟩ := g; simp_all [jDv])
  refine AL.n ?_; (iterate 3 ((iterate 5 refine AL.rf ?_); refine AL.r qf ?_; refine AL.rm ?_)); (iterate 5 refine AL.rf ?_); refine AL.r qf ?_; refine AL.ra ?_; refine AL.nil (AW.ret (r1t ?_))
  (obtain ⟨⟨s1, g1, n1⟩, k1, d1, c1, w1⟩ := f; obtain ⟨⟨s2, g2, n2⟩, k2, d2, c2, w2⟩ := g; simp_all [jDv])
set_option maxRecDepth 100000
theorem jCP (s : jAU) : AC Tryz.prog 84 [AS s] (fun r => r = .s (AB (jBB s))) := by
  refine AC.of' 49 0 Tryz.func84 rfl ?_; change AW _ _ _ _ []; refine AW.g (AL.ra ?_); refine AL.nil (AW.seq (AW.g (AL.rm ?_))); refine AL.r (jBF rfl jDb rfl) ?_; refine AL.r qb ?_; refine AL.rm ?_; refine AL.fk (d := 9) rfl (fun h9 => ?_) (fun h9 => ?_)
  ·refine AL.n ?_; (iterate 3 refine AL.rf ?_); refine AL.r qt ?_; refine AL.nil (AW.cond_t rfl (AW.g (AL.ra ?_))); refine AL.nil (AW.ret (r1t ?_))
   (have : jBB s = false := by (unfold jBB; simp; omega)); simp_all
  refine AL.n ?_; refine AL.ro (jAa rfl rfl) ?_; refine AL.ro (jBF rfl jDb rfl) ?_; refine AL.ro qb ?_; refine AL.r qf ?_; refine AL.nil (AW.cd rfl (fun h13 => ?_) (fun h13 => ?_))
  ·refine AW.g (AL.ra ?_); refine AL.nil (AW.ret (r1t ?_))
   (have : jBB s = false := by (unfold jBB; simp; omega)); simp_all
  refine AW.skip (AW.seq (AW.g (AL.ra ?_))); refine AL.nil (AW.block (AW.loopM (ι := Nat) [2, 4, 5, 14, 15, 16, 17, 18, 19, 20, 21, 22, 23, 24, 25, 26, 27, 28, 29, 30, 31, 32, 33, 34, 35, 36, 37, 38, 39, 40, 41, 42, 43, 44, 45, 46, 47, 48, 49] (fun k => [(3, AI (k : Int))]) [] (fun k => []) (fun k => k ≤ s.length ∧ ∀ i, i < k → okN (s.getD i 0) i = true) (fun k => s.length - k) 0 (⟨by omega, fun i hi => absurd hi (by omega)⟩) wk sk ?_)); rintro k gs hJ; refine AW.nm ?_; obtain ⟨hk, hok⟩ := hJ; refine AW.seq (AW.g ?_); (iterate 2 refine AL.rm ?_); refine AL.r (jBF rfl jDb rfl) ?_; refine AL.r qb ?_; refine AL.nil (AW.cd rfl (fun h17 => ?_) (fun h17 => ?_))
  ·refine AW.skip (AW.seq (AW.block (AW.g ?_))); (iterate 2 refine AL.rm ?_); refine AL.r (jBt rfl jDb rfl rfl (rfl) (List.getElem?_eq_getElem (by omega))) ?_; refine AL.r qb ?_; refine AL.rm ?_; refine AL.fk (d := 24) rfl (fun h24 => ?_) (fun h24 => ?_)
   ·refine AL.n ?_; refine AL.ro (jAa rfl rfl) ?_; refine AL.ro (jAa rfl rfl) ?_; refine AL.ro (jBt rfl jDb rfl rfl (rfl) (List.getElem?_eq_getElem (by omega))) ?_; refine AL.ro qb ?_; refine AL.r qt ?_; refine AL.ra ?_; refine AL.nil (AW.g ?_); (iterate 2 refine AL.rm ?_); refine AL.r (jBt rfl jDb rfl rfl (rfl) (List.getElem?_eq_getElem (by omega))) ?_; refine AL.r qb ?_; refine AL.rm ?_; refine AL.fk (d := 34) rfl (fun h34 => ?_) (fun h34 => ?_)
    ·refine AL.n ?_; refine AL.ro (jAa rfl rfl) ?_; refine AL.ro (jAa rfl rfl) ?_; refine AL.ro (jBt rfl jDb rfl rfl (rfl) (List.getElem?_eq_getElem (by omega))) ?_; refine AL.ro qb ?_; refine AL.r qt ?_; refine AL.ra ?_; refine AL.nil (AW.g (AL.rm ?_)); refine AL.r qu ?_; refine AL.rm ?_; refine AL.fk (d := 42) rfl (fun h42 => ?_) (fun h42 => ?_)
     ·refine AL.n ?_; refine AL.ro (jAa rfl rfl) ?_; refine AL.ro qu ?_; refine AL.ro (jAa rfl rfl) ?_; refine AL.fk (d := 45) rfl (fun h45 => ?_) (fun h45 => ?_)
      ·refine AL.n ?_; (iterate 2 refine AL.rf ?_); refine AL.ro (jAm rfl rfl rfl) ?_; refine AL.r qt ?_; refine AL.nil (AW.cond_t rfl (AW.g (AL.ra ?_))); refine AL.nil (AW.ret (r1t ?_)); rw [jDx (k := k) (by omega) (jGk (by omega))]
      refine AL.n ?_; refine AL.ro (jAa rfl rfl) ?_; refine AL.ro qb ?_; refine AL.ro (jAs rfl rfl rfl) ?_; refine AL.r qt ?_; refine AL.nil (AW.cd rfl (fun h49 => ?_) (fun h49 => ?_))
      ·refine AW.g (AL.ra ?_); refine AL.nil (AW.ret (r1t ?_)); rw [jDx (k := k) (by omega) (jGk (by omega))]
      refine AW.skip ?_; change AW _ _ _ _ _; refine AW.region ?_; refine AL.rm ?_; refine AL.r qA ?_; refine AL.ra ?_; refine AL.nil ?_; refine ⟨k + 1, ?_, by first | omega | (simp only []; omega), ?_, ?_⟩
      ·exact ⟨by omega, jD0 (by omega) hok (jI5 (by omega))⟩
      ·exact wk
      exact sk
     refine AL.n ?_; (iterate 3 refine AL.rf ?_); (iterate 2 refine AL.ru ?_); refine AL.rf ?_; refine AL.r qf ?_; refine AL.nil ?_; change AW _ _ _ _ _; refine AW.cond_f rfl ?_; refine AW.skip ?_; change AW _ _ _ _ _; refine AW.region ?_; refine AL.rm ?_; refine AL.r qA ?_; refine AL.ra ?_; refine AL.nil ?_; refine ⟨k + 1, ?_, by first | omega | (simp only []; omega), ?_, ?_⟩
     ·exact ⟨by omega, jD0 (by omega) hok (jI5 (by omega))⟩
     ·exact wk
     exact sk
    refine AL.n ?_; (iterate 4 refine AL.rf ?_); refine AL.r qf ?_; refine AL.ra ?_; refine AL.nil (AW.g (AL.rm ?_)); refine AL.r qu ?_; refine AL.rm ?_; refine AL.fk (d := 42) rfl (fun h42 => ?_) (fun h42 => ?_)
    ·refine AL.n ?_; refine AL.ro (jAa rfl rfl) ?_; refine AL.ro qu ?_; refine AL.ro (jAa rfl rfl) ?_; (iterate 2 refine AL.rf ?_); refine AL.ro (jAm rfl rfl rfl) ?_; refine AL.r qt ?_; refine AL.nil (AW.cond_t rfl (AW.g (AL.ra ?_))); refine AL.nil (AW.ret (r1t ?_)); rw [jDx (k := k) (by omega) (jGk (by omega))]
    refine AL.n ?_; (iterate 3 refine AL.rf ?_); (iterate 2 refine AL.ru ?_); refine AL.rf ?_; refine AL.r qf ?_; refine AL.nil ?_; change AW _ _ _ _ _; refine AW.cond_f rfl ?_; refine AW.skip ?_; change AW _ _ _ _ _; refine AW.region ?_; refine AL.rm ?_; refine AL.r qA ?_; refine AL.ra ?_; refine AL.nil ?_; refine ⟨k + 1, ?_, by first | omega | (simp only []; omega), ?_, ?_⟩
    ·exact ⟨by omega, jD0 (by omega) hok (jI5 (by omega))⟩
    ·exact wk
    exact sk
   refine AL.n ?_; (iterate 4 refine AL.rf ?_); refine AL.r qf ?_; refine AL.ra ?_; refine AL.nil (AW.g ?_); (iterate 2 refine AL.rm ?_); refine AL.r (jBt rfl jDb rfl rfl (rfl) (List.getElem?_eq_getElem (by omega))) ?_; refine AL.r qb ?_; refine AL.rm ?_; refine AL.fk (d := 34) rfl (fun h34 => ?_) (fun h34 => ?_)
   ·refine AL.n ?_; refine AL.ro (jAa rfl rfl) ?_; refine AL.ro (jAa rfl rfl) ?_; refine AL.ro (jBt rfl jDb rfl rfl (rfl) (List.getElem?_eq_getElem (by omega))) ?_; refine AL.ro qb ?_; refine AL.r qt ?_; refine AL.ra ?_; refine AL.nil (AW.g (AL.rm ?_)); refine AL.r qu ?_; refine AL.rm ?_; refine AL.ro (jAa rfl rfl) ?_; refine AL.ro qu ?_; refine AL.ro (jAa rfl rfl) ?_; refine AL.fk (d := 45) rfl (fun h45 => ?_) (fun h45 => ?_)
    ·refine AL.n ?_; (iterate 2 refine AL.rf ?_); refine AL.ro (jAm rfl rfl rfl) ?_; refine AL.r qt ?_; refine AL.nil (AW.cond_t rfl (AW.g (AL.ra ?_))); refine AL.nil (AW.ret (r1t ?_)); rw [jDx (k := k) (by omega) (jGk (by omega))]
    refine AL.n ?_; refine AL.ro (jAa rfl rfl) ?_; refine AL.ro qb ?_; refine AL.ro (jAs rfl rfl rfl) ?_; refine AL.r qt ?_; refine AL.nil (AW.cd rfl (fun h49 => ?_) (fun h49 => ?_))
    ·refine AW.g (AL.ra ?_); refine AL.nil (AW.ret (r1t ?_)); rw [jDx (k := k) (by omega) (jGk (by omega))]
    refine AW.skip ?_; change AW _ _ _ _ _; refine AW.region ?_; refine AL.rm ?_; refine AL.r qA ?_; refine AL.ra ?_; refine AL.nil ?_; refine ⟨k + 1, ?_, by first | omega | (simp only []; omega), ?_, ?_⟩
    ·exact ⟨by omega, jD0 (by omega) hok (jI5 (by omega))⟩
    ·exact wk
    exact sk
   refine AL.n ?_; (iterate 4 refine AL.rf ?_); refine AL.r qf ?_; refine AL.ra ?_; refine AL.nil (AW.g (AL.rm ?_)); refine AL.r qu ?_; refine AL.rm ?_; refine AL.ro (jAa rfl rfl) ?_; refine AL.ro qu ?_; refine AL.ro (jAa rfl rfl) ?_; (iterate 2 refine AL.rf ?_); refine AL.ro (jAm rfl rfl rfl) ?_; refine AL.r qt ?_; refine AL.nil (AW.cond_t rfl (AW.g (AL.ra ?_))); refine AL.nil (AW.ret (r1t ?_)); rw [jDx (k := k) (by omega) (jGk (by omega))]
  refine AW.exit ?_; change AW _ _ _ _ _; refine AW.g (AL.ra ?_); refine AL.nil (AW.ret (r1t ?_)); rw [jLV (by omega) (by omega) (fun i hi => hok i (by omega))]
theorem scope01 (n : Int) : (decide (n ≥ 0) && decide (n ≤ 1)) = (n == 0 || n == 1) := by
  rw [Bool.eq_iff_iff]; simp; omega
theorem jMA (r : RefD) : jCl r = (decide (r.scope ≥ 0) && decide (r.scope ≤ 1) && jBB r.name && (((r.group.length : Int) == 0) || jBB r.group)) := by
  rw [scope01, len0]; rfl
theorem jH4 (r : RefD) : AC Tryz.prog 87 [r.av] (fun x => x = .s (AB (jCl r))) := by
  rw [jMA]
  refine AC.of' 26 1 Tryz.func87 rfl ?_; change AW _ _ _ _ [TK.mk 0 .off]; refine AW.g (AL.oq (AOpB.op (oB 0 ?_))); refine AL.n ?_; refine AL.ra ?_; refine AL.nil (AW.g (AL.r (qa jB7) ?_)); refine AL.r (ql ag_3) ?_; refine AL.r qb ?_; refine AL.rm ?_; refine AL.fk (d := 6) rfl (fun h6 => ?_) (fun h6 => ?_)
  ·refine AL.n ?_; refine AL.ro (qa jB7) ?_; refine AL.ro (ql ag_3) ?_; refine AL.ro qb ?_; refine AL.r qt ?_; refine AL.rm ?_; refine AL.fk (d := 11) rfl (fun h11 => ?_) (fun h11 => ?_)
   ·refine AL.n ?_; refine AL.ro (qa jFo) ?_; refine AL.ro (ql ag_9) ?_; refine AL.on rfl rfl rfl (AOpB.op (jAb (jCP _) rfl (by kernel_rfl) rfl (none) ?_)); rintro r rfl; refine AL.n ?_; refine AL.r qt ?_; refine AL.rm ?_; refine AL.fk (d := 16) rfl (fun h16 => ?_) (fun h16 => ?_)
    ·refine AL.n ?_; refine AL.ro (qa jC1) ?_; refine AL.ro (ql ag_9) ?_; refine AL.ro (jBF rfl jDb rfl) ?_; refine AL.ro qb ?_; refine AL.ro (jAa rfl rfl) ?_; refine AL.fk (d := 21) rfl (fun h21 => ?_) (fun h21 => ?_)
     ·refine AL.n ?_; (iterate 3 refine AL.rf ?_); refine AL.ro (jAm rfl rfl rfl) ?_; refine AL.r qt ?_; refine AL.ra ?_; refine AL.nil (AW.ret (r1t ?_))
      (simp_all <;> (intros; omega))
     refine AL.n ?_; refine AL.ro (qa jC1) ?_; refine AL.ro (ql ag_9) ?_; refine AL.on rfl rfl rfl (AOpB.op (jAb (jCP _) rfl (by kernel_rfl) rfl (none) ?_)); rintro r rfl; refine AL.n ?_; refine AL.ro (jAs rfl rfl rfl) ?_; refine AL.r qt ?_; refine AL.ra ?_; refine AL.nil (AW.ret (r1t ?_))
     (simp_all <;> (intros; omega))
    refine AL.n ?_; (iterate 5 refine AL.rf ?_); (iterate 3 refine AL.ru ?_); refine AL.rf ?_; refine AL.r qf ?_; refine AL.ra ?_; refine AL.nil (AW.ret (r1t ?_))
    (simp_all <;> (intros; omega))
   refine AL.n ?_; (iterate 3 refine AL.rf ?_); refine AL.r qf ?_; refine AL.rm ?_; (iterate 5 refine AL.rf ?_); (iterate 3 refine AL.ru ?_); refine AL.rf ?_; refine AL.r qf ?_; refine AL.ra ?_; refine AL.nil (AW.ret (r1t ?_))
   (simp_all <;> (intros; omega))
  refine AL.n ?_; (iterate 2 ((iterate 3 refine AL.rf ?_); refine AL.r qf ?_; refine AL.rm ?_)); (iterate 5 refine AL.rf ?_); (iterate 3 refine AL.ru ?_); refine AL.rf ?_; refine AL.r qf ?_; refine AL.ra ?_; refine AL.nil (AW.ret (r1t ?_))
  (simp_all <;> (intros; omega))
theorem has_c (l : List jAU) (s : jAU) (hl : l.length ≤ 9223372036854775000) : AC Tryz.prog 155 [.sl (csS l), AS s] (fun x => x = .s (AB (l.contains s))) := by
  refine AC.of' 16 0 Tryz.func155 rfl ?_; change AW _ _ _ _ []; refine AW.g (AL.ra ?_); refine AL.nil (AW.seq (AW.g (AL.ra ?_))); refine AL.nil (AW.block (AW.loopM (ι := Nat) [4, 6, 7, 8, 9, 10, 11, 12, 13, 14, 15, 16, 17] (fun k => [(5, AI (k : Int))]) [] (fun k => []) (fun k => k ≤ l.length ∧ ∀ i (hi : i < l.length), i < k → ¬ l[i] = s) (fun k => l.length - k) 0 (⟨by omega, fun i _ hi => absurd hi (by omega)⟩) wk sk ?_)); rintro k gs hJ; refine AW.nm ?_; obtain ⟨hk, hok⟩ := hJ; refine AW.seq (AW.g ?_); (iterate 2 refine AL.rm ?_); refine AL.r (lN jCz) ?_; refine AL.r qb ?_; refine AL.nil (AW.cd rfl (fun h9 => ?_) (fun h9 => ?_))
  ·refine AW.skip (AW.seq (AW.block (AW.g ?_))); (iterate 2 refine AL.rm ?_); refine AL.r (jAc rfl jCz rfl rfl rfl (jAy (by omega)) rfl) ?_; refine AL.r (jAl rfl ag_9 rfl rfl) ?_; refine AL.rm ?_; refine AL.r (jBi rfl rfl rfl) ?_; refine AL.nil (AW.cd rfl (fun h17 => ?_) (fun h17 => ?_))
   ·refine AW.g (AL.ra ?_); refine AL.nil (AW.ret (r1t ?_))
    (have : l.contains s = true := by (rw [List.contains_iff_mem, ← h17]; exact List.getElem_mem _)); rw [this]
   refine AW.skip ?_; change AW _ _ _ _ _; refine AW.region ?_; refine AL.rm ?_; refine AL.r qA ?_; refine AL.ra ?_; refine AL.nil ?_; refine ⟨k + 1, ?_, by first | omega | (simp only []; omega), ?_, ?_⟩
   ·exact ⟨by omega, jC8 (p := fun y => ¬ y = s) (by omega) hok h17⟩
   ·exact wk
   exact sk
  refine AW.exit ?_; change AW _ _ _ _ _; refine AW.g (AL.ra ?_); refine AL.nil (AW.ret (r1t ?_))
  (have : l.contains s = false := by (rw [Bool.eq_false_iff, ne_eq, List.contains_iff_mem]; intro hm; obtain ⟨i, hi, e⟩ := List.getElem_of_mem hm; exact hok i hi (by omega) e)); rw [this]
theorem rsame5_c (l m : List jAU) (hl : l.length ≤ 9223372036854775000) : AC Tryz.prog 172 [.sl (csS l), .sl (csS m)] (fun x => x = .s (AB (decide (l = m)))) := by
  refine AC.of' 24 0 Tryz.func172 rfl ?_; change AW _ _ _ _ []; refine AW.g (AL.ra ?_); refine AL.nil (AW.seq (AW.g (AL.rm ?_))); refine AL.r (lN jCz) ?_; refine AL.rm ?_; refine AL.r (lN jCz) ?_; refine AL.r qb ?_; refine AL.nil (AW.cd rfl (fun h10 => ?_) (fun h10 => ?_))
  ·refine AW.g (AL.ra ?_); refine AL.nil (AW.ret (r1t ?_)); rw [decide_eq_false (fun e => by subst e; simp at h10)]
  refine AW.skip (AW.seq (AW.g (AL.ra ?_))); refine AL.nil (AW.block (AW.loopM (ι := Nat) [4, 11, 12, 13, 14, 15, 16, 17, 18, 19, 20, 21, 22, 23, 24, 25] (fun k => [(5, AI (k : Int))]) [] (fun k => []) (fun k => k ≤ l.length ∧ l.take k = m.take k) (fun k => l.length - k) 0 (⟨by omega, rfl⟩) wk sk ?_)); rintro k gs hJ; refine AW.nm ?_; obtain ⟨hk, hok⟩ := hJ; refine AW.seq (AW.g ?_); (iterate 2 refine AL.rm ?_); refine AL.r (lN jCz) ?_; refine AL.r qb ?_; refine AL.nil (AW.cd rfl (fun h14 => ?_) (fun h14 => ?_))
  ·refine AW.skip (AW.seq (AW.block (AW.seq (AW.draw (by kernel_rfl) ?_)))); refine AD.r 0 rfl (jAa rfl rfl) rfl ?_; refine AD.r 1 rfl (jAa rfl rfl) rfl ?_; refine AD.r 2 rfl (jAc rfl jCz rfl rfl rfl (jAy (by omega)) rfl) rfl ?_; refine AD.r 3 rfl (jAl rfl ag_9 rfl rfl) rfl ?_; refine AD.r 4 rfl (jAa rfl rfl) rfl ?_; refine AD.r 5 rfl (jAa rfl rfl) rfl ?_; refine AD.r 6 rfl (jAc rfl jCz rfl rfl rfl (jAy (by omega)) rfl) rfl ?_; refine AD.r 7 rfl (jAl rfl ag_9 rfl rfl) rfl ?_; refine AD.r 8 rfl (jEc rfl rfl rfl) rfl ?_; refine AD.done (by kernel_rfl) ?_; change AW _ _ _ _ _; refine AW.cd rfl (fun h25 => ?_) (fun h25 => ?_)
   ·refine AW.g (AL.ra ?_); refine AL.nil (AW.ret (r1t ?_)); rw [decide_eq_false (fun e => by subst e; exact h25 rfl)]
   refine AW.skip ?_; change AW _ _ _ _ _; refine AW.region ?_; refine AL.rm ?_; refine AL.r qA ?_; refine AL.ra ?_; refine AL.nil ?_; refine ⟨k + 1, ?_, by first | omega | (simp only []; omega), ?_, ?_⟩
   ·exact ⟨by omega, jBN (by omega) (by omega) hok h25⟩
   ·exact wk
   exact sk
  refine AW.exit ?_; change AW _ _ _ _ _; refine AW.g (AL.ra ?_); refine AL.nil (AW.ret (r1t ?_)); rw [decide_eq_true (by rw [List.take_of_length_le (by omega), List.take_of_length_le (by omega)] at hok; exact hok)]
theorem rsameT_c (l m : List jAU) (hl : l.length ≤ 9223372036854775000) : AC Tryz.prog 169 [.sl (csS l), .sl (csS m)] (fun x => x = .s (AB (decide (l = m)))) := by
  refine AC.of' 6 0 Tryz.func169 rfl ?_; change AW _ _ _ _ []; refine AW.g (AL.ra ?_); refine AL.nil (AW.g ?_); (iterate 2 refine AL.rm ?_); refine AL.cl (rsame5_c _ _ hl) ?_; refine AL.n ?_; refine AL.ra ?_; refine AL.nil (AW.ret (r1t ?_)); rfl
theorem jNg (f g : FldD) (hl : f.cases.length ≤ 9223372036854775000) : AC Tryz.prog 156 [f.av, g.av] (fun x => x = .s (AB (decide (f = g)))) := by
  refine AC.of' 36 2 Tryz.func156 rfl ?_; change AW _ _ _ _ [TK.mk 0 .off, TK.mk 0 .off]; refine AW.g (AL.oq (AOpB.op (oB 0 ?_))); refine AL.n ?_; refine AL.oq (AOpB.op (oB 1 ?_)); refine AL.n ?_; refine AL.ra ?_; refine AL.nil (AW.g ?_); (iterate 2 (refine AL.r (qa jFA) ?_; refine AL.r (qN jBa) ?_)); refine AL.r (jCW rfl rfl rfl) ?_; refine AL.rm ?_; refine AL.fk (d := 10) rfl (fun h10 => ?_) (fun h10 => ?_)
  ·refine AL.n ?_; (iterate 2 (refine AL.ro (qa jDq) ?_; refine AL.ro (ql ag_3) ?_)); refine AL.ro qb ?_; refine AL.r qt ?_; refine AL.rm ?_; refine AL.fk (d := 17) rfl (fun h17 => ?_) (fun h17 => ?_)
   ·refine AL.n ?_; (iterate 2 (refine AL.ro (qa jC3) ?_; refine AL.ro (ql ag_9) ?_)); refine AL.ro (jBi rfl rfl rfl) ?_; refine AL.r qt ?_; refine AL.rm ?_; refine AL.fk (d := 24) rfl (fun h24 => ?_) (fun h24 => ?_)
    ·refine AL.n ?_; (iterate 2 (refine AL.ro (qa jCX) ?_; refine AL.ro (ql ag_2) ?_)); refine AL.ro qb ?_; refine AL.r qt ?_; refine AL.rm ?_; refine AL.fk (d := 31) rfl (fun h31 => ?_) (fun h31 => ?_)
     ·refine AL.n ?_; (iterate 2 (refine AL.ro (qa jBJ) ?_; refine AL.ro (ql jDY) ?_)); refine AL.on rfl rfl rfl (AOpB.op (jAb (rsameT_c _ _ hl) rfl (by kernel_rfl) rfl (none) ?_)); rintro r rfl; refine AL.n ?_; refine AL.r qt ?_; refine AL.ra ?_; refine AL.nil (AW.ret (r1t ?_))
      (obtain ⟨⟨s1, g1, n1⟩, k1, d1, c1, w1⟩ := f; obtain ⟨⟨s2, g2, n2⟩, k2, d2, c2, w2⟩ := g; simp_all [jDv])
     refine AL.n ?_; (iterate 5 refine AL.rf ?_); refine AL.r qf ?_; refine AL.ra ?_; refine AL.nil (AW.ret (r1t ?_))
     (obtain ⟨⟨s1, g1, n1⟩, k1, d1, c1, w1⟩ := f; obtain ⟨⟨s2, g2, n2⟩, k2, d2, c2, w2⟩ := g; simp_all [jDv])
    refine AL.n ?_; (iterate 5 refine AL.rf ?_); refine AL.r qf ?_; refine AL.rm ?_; (iterate 5 refine AL.rf ?_); refine AL.r qf ?_; refine AL.ra ?_; refine AL.nil (AW.ret (r1t ?_))
    (obtain ⟨⟨s1, g1, n1⟩, k1, d1, c1, w1⟩ := f; obtain ⟨⟨s2, g2, n2⟩, k2, d2, c2, w2⟩ := g; simp_all [jDv])
   refine AL.n ?_; (iterate 2 ((iterate 5 refine AL.rf ?_); refine AL.r qf ?_; refine AL.rm ?_)); (iterate 5 refine AL.rf ?_); refine AL.r qf ?_; refine AL.ra ?_; refine AL.nil (AW.ret (r1t ?_))
   (obtain ⟨⟨s1, g1, n1⟩, k1, d1, c1, w1⟩ := f; obtain ⟨⟨s2, g2, n2⟩, k2, d2, c2, w2⟩ := g; simp_all [jDv])
  refine AL.n ?_; (iterate 3 ((iterate 5 refine AL.rf ?_); refine AL.r qf ?_; refine AL.rm ?_)); (iterate 5 refine AL.rf ?_); refine AL.r qf ?_; refine AL.ra ?_; refine AL.nil (AW.ret (r1t ?_))
  (obtain ⟨⟨s1, g1, n1⟩, k1, d1, c1, w1⟩ := f; obtain ⟨⟨s2, g2, n2⟩, k2, d2, c2, w2⟩ := g; simp_all [jDv])
end Go.Proofs.YtlapcfnmmpbeeaaGreat
