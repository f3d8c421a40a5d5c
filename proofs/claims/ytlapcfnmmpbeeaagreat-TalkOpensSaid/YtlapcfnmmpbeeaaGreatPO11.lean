/- A part of a proof. -/
import Derived.Test.YtlapcfnmmpbeeaaGreatPO10
set_option linter.unusedSimpArgs false
set_option linter.unusedVariables false
namespace Go.Proofs.YtlapcfnmmpbeeaaGreat
set_option maxRecDepth 100000
open Go.RowKit
theorem jKx {f : FldD} (h1 : jCl f.at_ = true) (h2 : f.kind = 3) (h3 : f.worth = 0) : jBk f = (jD1 f.cases && f.cases.contains f.dflt) := by simp [jBk, h1, h2, h3]
theorem jIS {l : List jAU} {s : jAU} (h : ∀ i (hi : i < l.length), (jBB l[i] && !(l.take i).contains l[i]) = true) : (jD1 l && l.contains s) = (decide (l.length < 7) && l.contains s) := by
  rcases Nat.eq_zero_or_pos l.length with h0 | h0
  · have : l = [] := List.eq_nil_of_length_eq_zero h0
    subst this
    simp
  by_cases h6 : l.length ≤ 6
  · rw [jKB h0 h6 h, decide_eq_true (by omega)]
  rw [decide_eq_false (by omega), Bool.false_and]
  unfold jD1
  rw [decide_eq_false h6]
  simp
theorem jIi (f : FldD) (hl : f.cases.length ≤ 9223372036854775000) : AC Tryz.prog 128 [f.av] (fun x => x = .s (AB (jBk f))) := by
  refine AC.of' 95 1 Tryz.func128 rfl ?_; change AW _ _ _ _ [TK.mk 0 .off]; refine AW.g (AL.oq (AOpB.op (oB 0 ?_))); refine AL.n ?_; refine AL.ra ?_; refine AL.nil (AW.seq (AW.g (AL.r (qa jFA) ?_))); refine AL.r (qN jBa) ?_; refine AL.cl (jH4 f.at_) ?_; refine AL.n ?_; refine AL.r qu ?_; refine AL.nil (AW.cd rfl (fun h7 => ?_) (fun h7 => ?_))
  ·refine AW.g (AL.ra ?_); refine AL.nil (AW.ret (r1t ?_))
   (simp_all [jBk, len0] <;> (first | omega | (intros; omega) | (rw [Bool.eq_iff_iff]; simp; omega)))
  refine AW.skip (AW.seq (AW.g (AL.r (qa jDq) ?_))); refine AL.r (ql ag_3) ?_; refine AL.r qb ?_; refine AL.nil (AW.cd rfl (fun h10 => ?_) (fun h10 => ?_))
  ·refine AW.g (AL.r (qa jC3) ?_); refine AL.r (ql ag_9) ?_; refine AL.r (jBi rfl rfl rfl) ?_; refine AL.rm ?_; refine AL.fk (d := 14) rfl (fun h14 => ?_) (fun h14 => ?_)
   ·refine AL.n ?_; refine AL.ro (qa jBJ) ?_; refine AL.ro (ql jDY) ?_; refine AL.ro (lN jCz) ?_; refine AL.ro qb ?_; refine AL.r qt ?_; refine AL.rm ?_; refine AL.fk (d := 20) rfl (fun h20 => ?_) (fun h20 => ?_)
    ·refine AL.n ?_; refine AL.ro (qa jCX) ?_; refine AL.ro (ql ag_2) ?_; refine AL.ro qb ?_; refine AL.r qt ?_; refine AL.rm ?_; refine AL.fk (d := 25) rfl (fun h25 => ?_) (fun h25 => ?_)
     ·refine AL.n ?_; refine AL.ro (qa jCX) ?_; refine AL.ro (ql ag_2) ?_; refine AL.ro qb ?_; refine AL.r qt ?_; refine AL.ra ?_; refine AL.nil (AW.ret (r1t ?_))
      (simp_all [jBk, len0] <;> (first | omega | (intros; omega) | (rw [Bool.eq_iff_iff]; simp; omega)))
     refine AL.n ?_; (iterate 3 refine AL.rf ?_); refine AL.r qf ?_; refine AL.ra ?_; refine AL.nil (AW.ret (r1t ?_))
     (simp_all [jBk, len0] <;> (first | omega | (intros; omega) | (rw [Bool.eq_iff_iff]; simp; omega)))
    refine AL.n ?_; (iterate 3 refine AL.rf ?_); refine AL.r qf ?_; refine AL.rm ?_; (iterate 3 refine AL.rf ?_); refine AL.r qf ?_; refine AL.ra ?_; refine AL.nil (AW.ret (r1t ?_))
    (simp_all [jBk, len0] <;> (first | omega | (intros; omega) | (rw [Bool.eq_iff_iff]; simp; omega)))
   refine AL.n ?_; (iterate 4 refine AL.rf ?_); (iterate 2 (refine AL.r qf ?_; refine AL.rm ?_; (iterate 3 refine AL.rf ?_))); refine AL.r qf ?_; refine AL.ra ?_; refine AL.nil (AW.ret (r1t ?_))
   (simp_all [jBk, len0] <;> (first | omega | (intros; omega) | (rw [Bool.eq_iff_iff]; simp; omega)))
  refine AW.skip (AW.seq (AW.g (AL.r (qa jCX) ?_))); refine AL.r (ql ag_2) ?_; refine AL.r qb ?_; refine AL.nil (AW.cd rfl (fun h32 => ?_) (fun h32 => ?_))
  ·refine AW.g (AL.ra ?_); refine AL.nil (AW.ret (r1t ?_))
   (simp_all [jBk, len0] <;> (first | omega | (intros; omega) | (rw [Bool.eq_iff_iff]; simp; omega)))
  refine AW.skip (AW.seq (AW.g (AL.r (qa jDq) ?_))); refine AL.r (ql ag_3) ?_; refine AL.r qb ?_; refine AL.nil (AW.cd rfl (fun h35 => ?_) (fun h35 => ?_))
  ·refine AW.seq (AW.g (AL.ra ?_)); refine AL.nil (AW.block (AW.loopM (ι := Nat) [2, 36, 37, 38, 39, 40, 41, 42, 43, 44, 45, 46, 47, 48, 49, 50, 51, 52, 53, 54, 55, 56, 57, 58, 59, 60, 61] (fun k => [(3, AI (k : Int))]) [] (fun k => []) (fun k => k ≤ f.cases.length ∧ ∀ i (hi : i < f.cases.length), i < k → (jBB f.cases[i] && !(f.cases.take i).contains f.cases[i]) = true) (fun k => f.cases.length - k) 0 (⟨by omega, fun i _ hi => absurd hi (by omega)⟩) wk sk ?_)); rintro k gs hJ; refine AW.nm ?_; obtain ⟨hk, hok⟩ := hJ; refine AW.seq (AW.g (AL.rm ?_)); refine AL.r (qa jBJ) ?_; refine AL.r (ql jDY) ?_; refine AL.r (lN jCz) ?_; refine AL.r qb ?_; refine AL.nil (AW.cd rfl (fun h40 => ?_) (fun h40 => ?_))
   ·refine AW.skip (AW.seq (AW.block (AW.seq (AW.draw (by kernel_rfl) ?_)))); refine AD.r 0 rfl (qa jBJ) rfl ?_; refine AD.r 1 rfl (ql jDY) rfl ?_; refine AD.r 2 rfl (jAa rfl rfl) rfl ?_; refine AD.r 3 rfl (jAc rfl jCz rfl rfl rfl (jAy (by omega)) rfl) rfl ?_; refine AD.r 4 rfl (jAl rfl ag_9 rfl rfl) rfl ?_; refine AD.move 5 rfl (by kernel_rfl) rfl (jAb (jCP _) rfl (by kernel_rfl) rfl (none) ?_); rintro r rfl; refine AD.n ?_; refine AD.r 6 rfl qu rfl ?_; refine AD.r 7 rfl (jAa rfl rfl) rfl ?_; refine AD.fk (d := 50) rfl (fun h50 => ?_) (fun h50 => ?_)
    ·refine AD.n ?_; refine AD.s 8 rfl ⟨_, _, rfl, rfl, rfl⟩ ?_; refine AD.s 9 rfl ⟨_, _, rfl, rfl, rfl⟩ ?_; refine AD.s 10 rfl ⟨_, _, rfl, rfl, rfl⟩ ?_; refine AD.s 11 rfl ⟨_, _, rfl, rfl, rfl⟩ ?_; refine AD.s 12 rfl ⟨_, _, rfl, rfl, rfl⟩ ?_; refine AD.s 13 rfl ⟨_, _, rfl, rfl, rfl⟩ ?_; refine AD.s 14 rfl ⟨_, _, rfl, rfl, rfl⟩ ?_; refine AD.s 15 rfl ⟨_, _, rfl, rfl, rfl⟩ ?_; refine AD.s 16 rfl ⟨_, _, rfl, rfl, rfl⟩ ?_; refine AD.s 17 rfl ⟨_, _, rfl, rfl, rfl⟩ ?_; refine AD.r 18 rfl (jAm rfl rfl rfl) rfl ?_; refine AD.done (by kernel_rfl) ?_; change AW _ _ _ _ _; refine AW.cond_t rfl (AW.g (AL.ra ?_)); refine AL.nil (AW.ret (r1t ?_)); rw [jKx h7 h35 h32, jGr (k := k) (by omega) (by simp_all), Bool.false_and]
    refine AD.n ?_; refine AD.r 8 rfl (qa jBJ) ⟨_, _, rfl, rfl, rfl⟩ ?_; refine AD.r 9 rfl (ql jDY) ⟨_, _, rfl, rfl, rfl⟩ ?_; refine AD.r 10 rfl (jAa rfl rfl) ⟨_, _, rfl, rfl, rfl⟩ ?_; refine AD.r 11 rfl (jB8 rfl jCz rfl (by first | exact jHA | exact jDf | (intro cs hcs; obtain rfl := List.mem_singleton.1 hcs; rfl) | (intro cs hcs; obtain ⟨_, _, rfl⟩ := List.mem_map.1 hcs; rfl)) rfl ⟨_, _, rfl, rfl⟩ (by omega) (by simp only [jAQ, jAd, List.length_map]; omega)) ⟨_, _, rfl, rfl, rfl⟩ ?_; refine AD.r 12 rfl (qa jBJ) ⟨_, _, rfl, rfl, rfl⟩ ?_; refine AD.r 13 rfl (ql jDY) ⟨_, _, rfl, rfl, rfl⟩ ?_; refine AD.r 14 rfl (jAa rfl rfl) ⟨_, _, rfl, rfl, rfl⟩ ?_; refine AD.r 15 rfl (jAc rfl jCz rfl rfl rfl (jAy (by omega)) rfl) ⟨_, _, rfl, rfl, rfl⟩ ?_; refine AD.r 16 rfl (jAl rfl ag_9 rfl rfl) ⟨_, _, rfl, rfl, rfl⟩ ?_; refine AD.move 17 rfl (by kernel_rfl) ⟨_, _, rfl, rfl, rfl⟩ (jAb (has_c (f.cases.take k) _ (by rw [List.length_take]; omega)) rfl (by kernel_rfl) rfl (none) ?_); rintro r rfl; refine AD.n ?_; refine AD.r 18 rfl (jAs rfl rfl rfl) rfl ?_; refine AD.done (by kernel_rfl) ?_; change AW _ _ _ _ _; refine AW.cd rfl (fun h61 => ?_) (fun h61 => ?_)
    ·refine AW.g (AL.ra ?_); refine AL.nil (AW.ret (r1t ?_)); rw [jKx h7 h35 h32, jGr (k := k) (by omega) (by simp_all), Bool.false_and]
    refine AW.skip ?_; change AW _ _ _ _ _; refine AW.region ?_; refine AL.rm ?_; refine AL.r qA ?_; refine AL.ra ?_; refine AL.nil ?_; refine ⟨k + 1, ?_, by first | omega | (simp only []; omega), ?_, ?_⟩
    ·exact ⟨by omega, jHq (by omega) hok (by simp_all)⟩
    ·exact wk
    exact sk
   refine AW.exit ?_; change AW _ _ _ _ _; refine AW.g (AL.r (qa jBJ) ?_); refine AL.r (ql jDY) ?_; refine AL.r (lN jCz) ?_; refine AL.r qb ?_; refine AL.rm ?_; refine AL.fk (d := 66) rfl (fun h66 => ?_) (fun h66 => ?_)
   ·refine AL.n ?_; refine AL.ro (qa jBJ) ?_; refine AL.ro (ql jDY) ?_; refine AL.ro (qa jC3) ?_; refine AL.ro (ql ag_9) ?_; refine AL.on rfl rfl rfl (AOpB.op (jAb (has_c f.cases _ hl) rfl (by kernel_rfl) rfl (none) ?_)); rintro r rfl; refine AL.n ?_; refine AL.r qt ?_; refine AL.ra ?_; refine AL.nil (AW.ret (r1t ?_)); rw [jKx h7 h35 h32, jIS (fun i hi => hok i hi (by omega))]; first | (rw [decide_eq_true (by omega), Bool.true_and]) | (rw [decide_eq_false (by omega), Bool.false_and])
   refine AL.n ?_; (iterate 5 refine AL.rf ?_); refine AL.r qf ?_; refine AL.ra ?_; refine AL.nil (AW.ret (r1t ?_)); rw [jKx h7 h35 h32, jIS (fun i hi => hok i hi (by omega))]; first | (rw [decide_eq_true (by omega), Bool.true_and]) | (rw [decide_eq_false (by omega), Bool.false_and])
  refine AW.skip (AW.seq (AW.g (AL.r (qa jBJ) ?_))); refine AL.r (ql jDY) ?_; refine AL.r (lN jCz) ?_; refine AL.r qb ?_; refine AL.nil (AW.cd rfl (fun h76 => ?_) (fun h76 => ?_))
  ·refine AW.g (AL.ra ?_); refine AL.nil (AW.ret (r1t ?_))
   (have hne : ¬ f.cases = [] := fun e => by (rw [e] at h76; simp at h76)); simp [jBk, h7, h10, h35, h32, hne]
  refine AW.skip (AW.g (AL.r (qa jDq) ?_)); refine AL.r (ql ag_3) ?_; refine AL.r qb ?_; refine AL.rm ?_; refine AL.fk (d := 80) rfl (fun h80 => ?_) (fun h80 => ?_)
  ·refine AL.n ?_; refine AL.ro (qa jC3) ?_; refine AL.ro (ql ag_9) ?_; refine AL.ro (jBF rfl jDb rfl) ?_; refine AL.ro qb ?_; refine AL.r qt ?_; refine AL.rm ?_; refine AL.fk (d := 86) rfl (fun h86 => ?_) (fun h86 => ?_)
   ·refine AL.n ?_; (iterate 4 refine AL.rf ?_); (iterate 3 refine AL.ru ?_); refine AL.rf ?_; refine AL.r qt ?_; refine AL.ra ?_; refine AL.nil (AW.ret (r1t ?_))
    (simp_all [jBk, len0] <;> (first | omega | (intros; omega) | (rw [Bool.eq_iff_iff]; simp; omega)))
   refine AL.n ?_; refine AL.ro (qa jDq) ?_; refine AL.ro (ql ag_3) ?_; refine AL.ro qb ?_; refine AL.ro (jAa rfl rfl) ?_; refine AL.fk (d := 90) rfl (fun h90 => ?_) (fun h90 => ?_)
   ·refine AL.n ?_; refine AL.ro (qa jC3) ?_; refine AL.ro (ql ag_9) ?_; refine AL.ro (jBi rfl rfl rfl) ?_; refine AL.ro (jAm rfl rfl rfl) ?_; refine AL.r qf ?_; refine AL.ra ?_; refine AL.nil (AW.ret (r1t ?_))
    (simp_all [jBk, len0] <;> (first | omega | (intros; omega) | (rw [Bool.eq_iff_iff]; simp; omega)))
   refine AL.n ?_; (iterate 3 refine AL.rf ?_); refine AL.ro (jAs rfl rfl rfl) ?_; refine AL.r qf ?_; refine AL.ra ?_; refine AL.nil (AW.ret (r1t ?_))
   (simp_all [jBk, len0] <;> (first | omega | (intros; omega) | (rw [Bool.eq_iff_iff]; simp; omega)))
  refine AL.n ?_; (iterate 4 refine AL.rf ?_); refine AL.r qf ?_; refine AL.rm ?_; refine AL.ro (qa jDq) ?_; refine AL.ro (ql ag_3) ?_; refine AL.ro qb ?_; refine AL.ro (jAa rfl rfl) ?_; refine AL.fk (d := 90) rfl (fun h90 => ?_) (fun h90 => ?_)
  ·refine AL.n ?_; refine AL.ro (qa jC3) ?_; refine AL.ro (ql ag_9) ?_; refine AL.ro (jBi rfl rfl rfl) ?_; refine AL.ro (jAm rfl rfl rfl) ?_; refine AL.r qf ?_; refine AL.ra ?_; refine AL.nil (AW.ret (r1t ?_))
   (simp_all [jBk, len0] <;> (first | omega | (intros; omega) | (rw [Bool.eq_iff_iff]; simp; omega)))
  refine AL.n ?_; (iterate 3 refine AL.rf ?_); refine AL.ro (jAs rfl rfl rfl) ?_; refine AL.r qf ?_; refine AL.ra ?_; refine AL.nil (AW.ret (r1t ?_))
  (simp_all [jBk, len0] <;> (first | omega | (intros; omega) | (rw [Bool.eq_iff_iff]; simp; omega)))
end Go.Proofs.YtlapcfnmmpbeeaaGreat
