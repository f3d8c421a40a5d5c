/- A part of a proof. -/
import Derived.Test.YtlapcfnmmpbeeaaGreatPO30
set_option linter.unusedSimpArgs false
set_option linter.unusedVariables false
namespace Go.Proofs.YtlapcfnmmpbeeaaGreat
set_option maxRecDepth 100000
set_option maxRecDepth 100000
open Go.RowKit
theorem jKV (l m : List TagD) : AC Tryz.prog 36 [.sl (l.map TagD.cs), .sl (m.map TagD.cs)] (fun x => x = .s (AB (decide (l = m)))) := by
  refine AC.of' 24 0 Tryz.func36 rfl ?_; change AW _ _ _ _ []; refine AW.g (AL.ra ?_); refine AL.nil (AW.seq (AW.g (AL.len (x := .tmp 0) rfl (fun hlen => ?_)))); rw [List.length_map] at hlen; unfold maxLen at hlen; refine AL.rm ?_; refine AL.r (lN jB5) ?_; refine AL.rm ?_; refine AL.r (lN jB5) ?_; refine AL.r qb ?_; refine AL.nil (AW.cd rfl (fun h10 => ?_) (fun h10 => ?_))
  ·refine AW.g (AL.ra ?_); refine AL.nil (AW.ret (r1t ?_))
   (first | (rw [decide_eq_false (fun e => by subst e; simp_all)]; done) | (rw [decide_eq_true (by rw [List.take_of_length_le (by omega), List.take_of_length_le (by omega)] at hok; exact hok)]; done) | grind)
  refine AW.skip (AW.seq (AW.g (AL.ra ?_))); refine AL.nil (AW.block (AW.loopM (ι := Nat) [4, 11, 12, 13, 14, 15, 16, 17, 18, 19, 20, 21, 22, 23, 24, 25] (fun k => [(5, AI (k : Int))]) [] (fun k => []) (fun k => k ≤ l.length ∧ l.take k = m.take k) (fun k => l.length - k) 0 (⟨by omega, rfl⟩) wk sk ?_)); rintro k gs hJ; refine AW.nm ?_; obtain ⟨hk, hok⟩ := hJ; refine AW.seq (AW.g ?_); (iterate 2 refine AL.rm ?_); refine AL.r (lN jB5) ?_; refine AL.r qb ?_; refine AL.nil (AW.cd rfl (fun h14 => ?_) (fun h14 => ?_))
  ·refine AW.skip (AW.seq (AW.block (AW.seq (AW.draw (by kernel_rfl) ?_)))); refine AD.r 0 rfl (jAa rfl rfl) rfl ?_; refine AD.r 1 rfl (jAa rfl rfl) rfl ?_; refine AD.r 2 rfl (jAc rfl jB5 rfl rfl rfl (jAy (by omega)) rfl) rfl ?_; refine AD.r 3 rfl (jAv rfl jAN rfl (Nat.le_of_ble_eq_true rfl) rfl) rfl ?_; refine AD.r 4 rfl (jAa rfl rfl) rfl ?_; refine AD.r 5 rfl (jAa rfl rfl) rfl ?_; refine AD.r 6 rfl (jAc rfl jB5 rfl rfl rfl (jAy (by omega)) rfl) rfl ?_; refine AD.r 7 rfl (jAv rfl jAN rfl (Nat.le_of_ble_eq_true rfl) rfl) rfl ?_; refine AD.r 8 rfl (jDS rfl rfl rfl) rfl ?_; refine AD.done (by kernel_rfl) ?_; change AW _ _ _ _ _; refine AW.cd rfl (fun h25 => ?_) (fun h25 => ?_)
   ·refine AW.g (AL.ra ?_); refine AL.nil (AW.ret (r1t ?_))
    (first | (rw [decide_eq_false (fun e => by subst e; simp_all)]; done) | (rw [decide_eq_true (by rw [List.take_of_length_le (by omega), List.take_of_length_le (by omega)] at hok; exact hok)]; done) | grind)
   refine AW.skip ?_; change AW _ _ _ _ _; refine AW.region ?_; refine AL.rm ?_; refine AL.r qA ?_; refine AL.ra ?_; refine AL.nil ?_; refine ⟨k + 1, ?_, by first | omega | (simp only []; omega), ?_, ?_⟩
   ·exact ⟨by omega, jBN (by omega) (by omega) hok (by grind [jAP])⟩
   ·exact wk
   exact sk
  refine AW.exit ?_; change AW _ _ _ _ _; refine AW.g (AL.ra ?_); refine AL.nil (AW.ret (r1t ?_))
  (first | (rw [decide_eq_false (fun e => by subst e; simp_all)]; done) | (rw [decide_eq_true (by rw [List.take_of_length_le (by omega), List.take_of_length_le (by omega)] at hok; exact hok)]; done) | grind)
theorem nl12 {a b : Bool} (h : a = b := by rw [Bool.eq_iff_iff]; simp_all [jFH, jAP, jDF] <;> (intros; simp_all)) : RS.s (AB a) = RS.s (AB b) := sb h
theorem nsameo_c (a b : OpD) : AC Tryz.prog 90 [a.av, b.av] (fun r => r = .s (AB (decide (a = b)))) := by
  refine AC.of' 78 2 Tryz.func90 rfl ?_; change AW _ _ _ _ [TK.mk 0 .off, TK.mk 0 .off]; refine AW.g (AL.oq (AOpB.op (oB 0 ?_))); refine AL.n ?_; refine AL.oq (AOpB.op (oB 1 ?_)); refine AL.n ?_; refine AL.ra ?_; refine AL.nil (AW.g ?_); (iterate 2 (refine AL.r (qa jEt) ?_; refine AL.r (qN jAN) ?_)); refine AL.r (jB9 rfl rfl rfl) ?_; refine AL.rm ?_; refine AL.fk (d := 10) rfl (fun h10 => ?_) (fun h10 => ?_)
  ·refine AL.n ?_; (iterate 2 (refine AL.ro (qa jEp) ?_; refine AL.ro (qN jAN) ?_)); refine AL.ro (jB9 rfl rfl rfl) ?_; refine AL.r qt ?_; refine AL.rm ?_; refine AL.fk (d := 17) rfl (fun h17 => ?_) (fun h17 => ?_)
   ·refine AL.n ?_; (iterate 2 (refine AL.ro (qa jDL) ?_; refine AL.ro (ql ag_2) ?_)); refine AL.ro qb ?_; refine AL.r qt ?_; refine AL.rm ?_; refine AL.fk (d := 24) rfl (fun h24 => ?_) (fun h24 => ?_)
    ·refine AL.n ?_; (iterate 2 (refine AL.ro (qa jEE) ?_; refine AL.ro (ql ag_9) ?_)); refine AL.ro (jBi rfl rfl rfl) ?_; refine AL.r qt ?_; refine AL.rm ?_; refine AL.fk (d := 31) rfl (fun h31 => ?_) (fun h31 => ?_)
     ·refine AL.n ?_; (iterate 2 (refine AL.ro (qa jCy) ?_; refine AL.ro (ql ag_3) ?_)); refine AL.ro qb ?_; refine AL.r qt ?_; refine AL.rm ?_; refine AL.fk (d := 38) rfl (fun h38 => ?_) (fun h38 => ?_)
      ·refine AL.n ?_; (iterate 2 (refine AL.ro (qa jBu) ?_; refine AL.ro (ql ag_9) ?_)); refine AL.ro (jBi rfl rfl rfl) ?_; refine AL.r qt ?_; refine AL.rm ?_; refine AL.fk (d := 45) rfl (fun h45 => ?_) (fun h45 => ?_)
       ·refine AL.n ?_; (iterate 2 (refine AL.ro (qa jBR) ?_; refine AL.ro (qN jBa) ?_)); refine AL.ro (jCW rfl rfl rfl) ?_; refine AL.r qt ?_; refine AL.rm ?_; refine AL.fk (d := 52) rfl (fun h52 => ?_) (fun h52 => ?_)
        ·refine AL.n ?_; (iterate 2 (refine AL.ro (qa jDe) ?_; refine AL.ro (ql ag_2) ?_)); refine AL.ro qb ?_; refine AL.r qt ?_; refine AL.rm ?_; refine AL.fk (d := 59) rfl (fun h59 => ?_) (fun h59 => ?_)
         ·refine AL.n ?_; (iterate 2 (refine AL.ro (qa jDN) ?_; refine AL.ro (ql ag_4) ?_)); refine AL.ro (jNa rfl bo_4 rfl rfl) ?_; refine AL.r qt ?_; refine AL.rm ?_; refine AL.fk (d := 66) rfl (fun h66 => ?_) (fun h66 => ?_)
          ·refine AL.n ?_; (iterate 2 (refine AL.ro (qa jDQ) ?_; refine AL.ro (ql ag_9) ?_)); refine AL.ro (jBi rfl rfl rfl) ?_; refine AL.r qt ?_; refine AL.rm ?_; refine AL.fk (d := 73) rfl (fun h73 => ?_) (fun h73 => ?_)
           ·refine AL.n ?_; (iterate 2 (refine AL.ro (qa jBh) ?_; refine AL.ro (ql jCs) ?_)); refine AL.on rfl rfl rfl (AOpB.op (jAb (jKV a.drops b.drops) rfl (by kernel_rfl) rfl (none) ?_)); rintro r rfl; refine AL.n ?_; refine AL.r qt ?_; refine AL.ra ?_; refine AL.nil (AW.ret (r1t ?_)); exact nl12
           refine AL.n ?_; (iterate 5 refine AL.rf ?_); refine AL.r qf ?_; refine AL.ra ?_; refine AL.nil (AW.ret (r1t ?_)); exact nl12
          refine AL.n ?_; (iterate 5 refine AL.rf ?_); refine AL.r qf ?_; refine AL.rm ?_; (iterate 5 refine AL.rf ?_); refine AL.r qf ?_; refine AL.ra ?_; refine AL.nil (AW.ret (r1t ?_)); exact nl12
         refine AL.n ?_; (iterate 2 ((iterate 5 refine AL.rf ?_); refine AL.r qf ?_; refine AL.rm ?_)); (iterate 5 refine AL.rf ?_); refine AL.r qf ?_; refine AL.ra ?_; refine AL.nil (AW.ret (r1t ?_)); exact nl12
        refine AL.n ?_; (iterate 3 ((iterate 5 refine AL.rf ?_); refine AL.r qf ?_; refine AL.rm ?_)); (iterate 5 refine AL.rf ?_); refine AL.r qf ?_; refine AL.ra ?_; refine AL.nil (AW.ret (r1t ?_)); exact nl12
       refine AL.n ?_; (iterate 4 ((iterate 5 refine AL.rf ?_); refine AL.r qf ?_; refine AL.rm ?_)); (iterate 5 refine AL.rf ?_); refine AL.r qf ?_; refine AL.ra ?_; refine AL.nil (AW.ret (r1t ?_)); exact nl12
      refine AL.n ?_; (iterate 5 ((iterate 5 refine AL.rf ?_); refine AL.r qf ?_; refine AL.rm ?_)); (iterate 5 refine AL.rf ?_); refine AL.r qf ?_; refine AL.ra ?_; refine AL.nil (AW.ret (r1t ?_)); exact nl12
     refine AL.n ?_; (iterate 6 ((iterate 5 refine AL.rf ?_); refine AL.r qf ?_; refine AL.rm ?_)); (iterate 2 refine AL.rf ?_)
     (iterate 3 refine AL.rf ?_); refine AL.r qf ?_; refine AL.ra ?_; refine AL.nil (AW.ret (r1t ?_))
     exact nl12
    refine AL.n ?_; (iterate 6 ((iterate 5 refine AL.rf ?_); refine AL.r qf ?_; refine AL.rm ?_)); (iterate 2 refine AL.rf ?_)
    (iterate 3 refine AL.rf ?_); refine AL.r qf ?_; refine AL.rm ?_; (iterate 5 refine AL.rf ?_); refine AL.r qf ?_; refine AL.ra ?_; refine AL.nil (AW.ret (r1t ?_))
    exact nl12
   refine AL.n ?_; (iterate 6 ((iterate 5 refine AL.rf ?_); refine AL.r qf ?_; refine AL.rm ?_)); (iterate 2 refine AL.rf ?_)
   (iterate 3 refine AL.rf ?_); (iterate 2 (refine AL.r qf ?_; refine AL.rm ?_; (iterate 5 refine AL.rf ?_))); refine AL.r qf ?_; refine AL.ra ?_; refine AL.nil (AW.ret (r1t ?_))
   exact nl12
  refine AL.n ?_; (iterate 6 ((iterate 5 refine AL.rf ?_); refine AL.r qf ?_; refine AL.rm ?_)); (iterate 2 refine AL.rf ?_)
  (iterate 3 refine AL.rf ?_); (iterate 3 (refine AL.r qf ?_; refine AL.rm ?_; (iterate 5 refine AL.rf ?_))); refine AL.r qf ?_; refine AL.ra ?_; refine AL.nil (AW.ret (r1t ?_))
  exact nl12
theorem jLx (l m : List OpD) : AC Tryz.prog 38 [.sl (l.map OpD.cs), .sl (m.map OpD.cs)] (fun x => x = .s (AB (decide (l = m)))) := by
  refine AC.of' 25 0 Tryz.func38 rfl ?_; change AW _ _ _ _ []; refine AW.g (AL.ra ?_); refine AL.nil (AW.seq (AW.g (AL.len (x := .tmp 0) rfl (fun hlen => ?_)))); rw [List.length_map] at hlen; unfold maxLen at hlen; refine AL.rm ?_; refine AL.r (lN jDp) ?_; refine AL.rm ?_; refine AL.r (lN jDp) ?_; refine AL.r qb ?_; refine AL.nil (AW.cd rfl (fun h10 => ?_) (fun h10 => ?_))
  ·refine AW.g (AL.ra ?_); refine AL.nil (AW.ret (r1t ?_)); rw [decide_eq_false (fun e => by subst e; simp at h10)]
  refine AW.skip (AW.seq (AW.g (AL.ra ?_))); refine AL.nil (AW.block (AW.loopM (ι := Nat) [4, 11, 12, 13, 14, 15, 16, 17, 18, 19, 20, 21, 22, 23, 24, 25, 26] (fun k => [(5, AI (k : Int))]) [] (fun k => []) (fun k => k ≤ l.length ∧ l.take k = m.take k) (fun k => l.length - k) 0 (⟨by omega, rfl⟩) wk sk ?_)); rintro k gs hJ; refine AW.nm ?_; obtain ⟨hk, hok⟩ := hJ; refine AW.seq (AW.g ?_); (iterate 2 refine AL.rm ?_); refine AL.r (lN jDp) ?_; refine AL.r qb ?_; refine AL.nil (AW.cd rfl (fun h14 => ?_) (fun h14 => ?_))
  ·refine AW.skip (AW.seq (AW.block (AW.seq (AW.draw (by kernel_rfl) ?_)))); refine AD.r 0 rfl (jAa rfl rfl) rfl ?_; refine AD.r 1 rfl (jAa rfl rfl) rfl ?_; refine AD.r 2 rfl (jAc rfl jDp rfl rfl rfl (jLE (by omega)) rfl) rfl ?_; refine AD.r 3 rfl (jAv rfl jAZ rfl (Nat.le_of_ble_eq_true rfl) rfl) rfl ?_; refine AD.r 4 rfl (jAa rfl rfl) rfl ?_; refine AD.r 5 rfl (jAa rfl rfl) rfl ?_; refine AD.r 6 rfl (jAc rfl jDp rfl rfl rfl (jLE (by omega)) rfl) rfl ?_; refine AD.r 7 rfl (jAv rfl jAZ rfl (Nat.le_of_ble_eq_true rfl) rfl) rfl ?_; refine AD.move 8 rfl (by kernel_rfl) rfl (jAb (nsameo_c (l[k]'(by omega)) (m[k]'(by omega))) rfl (by kernel_rfl) rfl (none) ?_); rintro r rfl; refine AD.n ?_; refine AD.r 9 rfl qu rfl ?_; refine AD.done (by kernel_rfl) ?_; change AW _ _ _ _ _; refine AW.cd rfl (fun h26 => ?_) (fun h26 => ?_)
   ·refine AW.g (AL.ra ?_); refine AL.nil (AW.ret (r1t ?_)); rw [decide_eq_false (fun e => by subst e; simp at h26)]
   refine AW.skip ?_; change AW _ _ _ _ _; refine AW.region ?_; refine AL.rm ?_; refine AL.r qA ?_; refine AL.ra ?_; refine AL.nil ?_; refine ⟨k + 1, ?_, by first | omega | (simp only []; omega), ?_, ?_⟩
   ·exact ⟨by omega, jBN (by omega) (by omega) hok (by simpa using h26)⟩
   ·exact wk
   exact sk
  refine AW.exit ?_; change AW _ _ _ _ _; refine AW.g (AL.ra ?_); refine AL.nil (AW.ret (r1t ?_)); rw [decide_eq_true (by rw [List.take_of_length_le (by omega), List.take_of_length_le (by omega)] at hok; exact hok)]
theorem jID (l m : List EdgeD) (hs : ∀ e ∈ l, e.lens.Small) : AC Tryz.prog 37 [.sl (l.map EdgeD.cs), .sl (m.map EdgeD.cs)] (fun x => x = .s (AB (decide (l = m)))) := by
  refine AC.of' 25 0 Tryz.func37 rfl ?_; change AW _ _ _ _ []; refine AW.g (AL.ra ?_); refine AL.nil (AW.seq (AW.g (AL.len (x := .tmp 0) rfl (fun hlen => ?_)))); rw [List.length_map] at hlen; unfold maxLen at hlen; refine AL.rm ?_; refine AL.r (lN jDn) ?_; refine AL.rm ?_; refine AL.r (lN jDn) ?_; refine AL.r qb ?_; refine AL.nil (AW.cd rfl (fun h10 => ?_) (fun h10 => ?_))
  ·refine AW.g (AL.ra ?_); refine AL.nil (AW.ret (r1t ?_)); rw [decide_eq_false (fun e => by subst e; simp at h10)]
  refine AW.skip (AW.seq (AW.g (AL.ra ?_))); refine AL.nil (AW.block (AW.loopM (ι := Nat) [4, 11, 12, 13, 14, 15, 16, 17, 18, 19, 20, 21, 22, 23, 24, 25, 26] (fun k => [(5, AI (k : Int))]) [] (fun k => []) (fun k => k ≤ l.length ∧ l.take k = m.take k) (fun k => l.length - k) 0 (⟨by omega, rfl⟩) wk sk ?_)); rintro k gs hJ; refine AW.nm ?_; obtain ⟨hk, hok⟩ := hJ; refine AW.seq (AW.g ?_); (iterate 2 refine AL.rm ?_); refine AL.r (lN jDn) ?_; refine AL.r qb ?_; refine AL.nil (AW.cd rfl (fun h14 => ?_) (fun h14 => ?_))
  ·refine AW.skip (AW.seq (AW.block (AW.seq (AW.draw (by kernel_rfl) ?_)))); refine AD.r 0 rfl (jAa rfl rfl) rfl ?_; refine AD.r 1 rfl (jAa rfl rfl) rfl ?_; refine AD.r 2 rfl (jAc rfl jDn rfl rfl rfl (jLI (by omega)) rfl) rfl ?_; refine AD.r 3 rfl (jAv rfl jDJ rfl (Nat.le_of_ble_eq_true rfl) rfl) rfl ?_; refine AD.r 4 rfl (jAa rfl rfl) rfl ?_; refine AD.r 5 rfl (jAa rfl rfl) rfl ?_; refine AD.r 6 rfl (jAc rfl jDn rfl rfl rfl (jLI (by omega)) rfl) rfl ?_; refine AD.r 7 rfl (jAv rfl jDJ rfl (Nat.le_of_ble_eq_true rfl) rfl) rfl ?_; refine AD.move 8 rfl (by kernel_rfl) rfl (jAb (rtsame_c (l[k]'(by omega)) (m[k]'(by omega)) (hs _ (List.getElem_mem _))) rfl (by kernel_rfl) rfl (none) ?_); rintro r rfl; refine AD.n ?_; refine AD.r 9 rfl qu rfl ?_; refine AD.done (by kernel_rfl) ?_
   change AW _ _ _ _ _; refine AW.cd rfl (fun h26 => ?_) (fun h26 => ?_)
   ·refine AW.g (AL.ra ?_); refine AL.nil (AW.ret (r1t ?_)); rw [decide_eq_false (fun e => by subst e; simp at h26)]
   refine AW.skip ?_; change AW _ _ _ _ _; refine AW.region ?_; refine AL.rm ?_; refine AL.r qA ?_; refine AL.ra ?_; refine AL.nil ?_; refine ⟨k + 1, ?_, by first | omega | (simp only []; omega), ?_, ?_⟩
   ·exact ⟨by omega, jBN (by omega) (by omega) hok (by simpa using h26)⟩
   ·exact wk
   exact sk
  refine AW.exit ?_; change AW _ _ _ _ _; refine AW.g (AL.ra ?_); refine AL.nil (AW.ret (r1t ?_)); rw [decide_eq_true (by rw [List.take_of_length_le (by omega), List.take_of_length_le (by omega)] at hok; exact hok)]
end Go.Proofs.YtlapcfnmmpbeeaaGreat
