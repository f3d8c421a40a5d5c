/- A part of a proof. -/
import Derived.Test.YtlapcfnmmpbeeaaGreatPO08
set_option linter.unusedSimpArgs false
set_option linter.unusedVariables false
namespace Go.Proofs.YtlapcfnmmpbeeaaGreat
set_option maxRecDepth 100000
open Go.RowKit
def letB (c : UInt8) : Bool := decide (97 ≤ c.toNat) && decide (c.toNat ≤ 122)
def digB (c : UInt8) : Bool := decide (48 ≤ c.toNat) && decide (c.toNat ≤ 57)
def okN (c : UInt8) (i : Nat) : Bool := letB c || (digB c && decide (i ≠ 0))
def jBB (s : jAU) : Bool := decide (1 ≤ s.length) && decide (s.length ≤ 12) && (List.range s.length).all fun i => okN (s.getD i 0) i
theorem jI5 {c : UInt8} {i : Nat} (h : (97 ≤ c.toNat ∧ c.toNat ≤ 122) ∨ (48 ≤ c.toNat ∧ c.toNat ≤ 57 ∧ i ≠ 0)) : okN c i = true := by
  unfold okN letB digB
  simp only [Bool.or_eq_true, Bool.and_eq_true, decide_eq_true_eq]
  omega
theorem jGk {c : UInt8} {i : Nat} (h : ¬ ((97 ≤ c.toNat ∧ c.toNat ≤ 122) ∨ (48 ≤ c.toNat ∧ c.toNat ≤ 57 ∧ i ≠ 0))) : okN c i = false := by
  cases hc : okN c i with
  | false => rfl
  | true =>
    unfold okN letB digB at hc
    simp only [Bool.or_eq_true, Bool.and_eq_true, decide_eq_true_eq] at hc
    omega
theorem jLV {s : jAU} (h1 : 1 ≤ s.length) (h2 : s.length ≤ 12) (h : ∀ i, i < s.length → okN (s.getD i 0) i = true) : jBB s = true := by
  unfold jBB
  simp only [h1, h2, decide_true, Bool.true_and, List.all_eq_true, List.mem_range]
  exact h
theorem jDx {s : jAU} {k : Nat} (hk : k < s.length) (h : okN s[k] k = false) : jBB s = false := by
  unfold jBB
  have : ((List.range s.length).all fun i => okN (s.getD i 0) i) = false := by
    rw [List.all_eq_false]
    exact ⟨k, List.mem_range.2 hk, by rw [List.getD_eq_getElem?_getD, List.getElem?_eq_getElem hk]; simp [h]⟩
  rw [this, Bool.and_false]
theorem jD0 {s : jAU} {k : Nat} (hk : k < s.length) (h : ∀ i, i < k → okN (s.getD i 0) i = true) (h' : okN s[k] k = true) : ∀ i, i < k + 1 → okN (s.getD i 0) i = true := fun i hi => by
  rcases Nat.lt_or_ge i k with h1 | h1
  · exact h i h1
  obtain rfl : i = k := by omega
  rw [List.getD_eq_getElem?_getD, List.getElem?_eq_getElem hk]; exact h'
theorem jDM (s : jAU) : AC Tryz.prog 76 [AS s] (fun r => r = .s (AB (jBB s))) := by
  refine AC.of' 49 0 Tryz.func76 rfl ?_; change AW _ _ _ _ []; refine AW.g (AL.ra ?_); refine AL.nil (AW.seq (AW.g (AL.rm ?_))); refine AL.r (jBF rfl jDb rfl) ?_; refine AL.r qb ?_; refine AL.rm ?_; refine AL.fk (d := 9) rfl (fun h9 => ?_) (fun h9 => ?_)
  ·refine AL.n ?_; (iterate 3 refine AL.rf ?_); refine AL.r qt ?_; refine AL.nil (AW.cond_t rfl (AW.g (AL.ra ?_))); refine AL.nil (AW.ret (r1t ?_))
   (have : jBB s = false := by (unfold jBB; simp; omega)); simp_all
  refine AL.n ?_; refine AL.ro (jAa rfl rfl) ?_; refine AL.ro (jBF rfl jDb rfl) ?_; refine AL.ro qb ?_; refine AL.r qf ?_; refine AL.nil (AW.cd rfl (fun h13 => ?_) (fun h13 => ?_))
  ·refine AW.g (AL.ra ?_); refine AL.nil (AW.ret (r1t ?_))
   (have : jBB s = false := by (unfold jBB; simp; omega)); simp_all
  refine AW.skip (AW.seq (AW.g (AL.rm ?_))); refine AL.r (jBF rfl jDb rfl) ?_; refine AL.rm ?_; refine AL.nil (AW.block (AW.loopM (ι := Nat) [2, 3, 4, 5, 17, 18, 19, 20, 21, 22, 23, 24, 25, 26, 27, 28, 29, 30, 31, 32, 33, 34, 35, 36, 37, 38, 39, 40, 41, 42, 43, 44, 45, 46, 47, 48, 49] (fun k => [(16, AI (k : Int))]) [] (fun k => []) (fun k => k ≤ s.length ∧ ∀ i, i < k → okN (s.getD i 0) i = true) (fun k => s.length - k) 0 (⟨by omega, fun i hi => absurd hi (by omega)⟩) wk sk ?_)); rintro k gs hJ; refine AW.nm ?_; obtain ⟨hk, hok⟩ := hJ; refine AW.g (AL.r qb ?_); refine AL.nil (AW.seq (AW.cd rfl (fun h17 => ?_) (fun h17 => ?_)))
  ·refine AW.skip (AW.seq (AW.block (AW.g (AL.rm ?_)))); refine AL.ra ?_; refine AL.nil (AW.g ?_); (iterate 2 refine AL.rm ?_); refine AL.r (jBt rfl jDb rfl rfl (rfl) (List.getElem?_eq_getElem (by omega))) ?_; refine AL.r qb ?_; refine AL.rm ?_; refine AL.fk (d := 23) rfl (fun h23 => ?_) (fun h23 => ?_)
   ·refine AL.n ?_; refine AL.ro (jAa rfl rfl) ?_; refine AL.ro (jAa rfl rfl) ?_; refine AL.ro (jBt rfl jDb rfl rfl (rfl) (List.getElem?_eq_getElem (by omega))) ?_; refine AL.ro qb ?_; refine AL.r qt ?_; refine AL.ra ?_; refine AL.nil (AW.g ?_); (iterate 2 refine AL.rm ?_); refine AL.r (jBt rfl jDb rfl rfl (rfl) (List.getElem?_eq_getElem (by omega))) ?_; refine AL.r qb ?_; refine AL.rm ?_; refine AL.fk (d := 33) rfl (fun h33 => ?_) (fun h33 => ?_)
    ·refine AL.n ?_; refine AL.ro (jAa rfl rfl) ?_; refine AL.ro (jAa rfl rfl) ?_; refine AL.ro (jBt rfl jDb rfl rfl (rfl) (List.getElem?_eq_getElem (by omega))) ?_; refine AL.ro qb ?_; refine AL.r qt ?_; refine AL.ra ?_; refine AL.nil (AW.g (AL.rm ?_)); refine AL.r qu ?_; refine AL.rm ?_; refine AL.fk (d := 41) rfl (fun h41 => ?_) (fun h41 => ?_)
     ·refine AL.n ?_; refine AL.ro (jAa rfl rfl) ?_; refine AL.ro qu ?_; refine AL.ro (jAa rfl rfl) ?_; refine AL.fk (d := 44) rfl (fun h44 => ?_) (fun h44 => ?_)
      ·refine AL.n ?_; (iterate 2 refine AL.rf ?_); refine AL.ro (jAm rfl rfl rfl) ?_; refine AL.r qt ?_; refine AL.nil (AW.cond_t rfl (AW.g (AL.ra ?_))); refine AL.nil (AW.ret (r1t ?_)); rw [jDx (k := k) (by omega) (jGk (by omega))]
      refine AL.n ?_; refine AL.ro (jAa rfl rfl) ?_; refine AL.ro qb ?_; refine AL.ro (jAs rfl rfl rfl) ?_; refine AL.r qt ?_; refine AL.nil (AW.cd rfl (fun h48 => ?_) (fun h48 => ?_))
      ·refine AW.g (AL.ra ?_); refine AL.nil (AW.ret (r1t ?_)); rw [jDx (k := k) (by omega) (jGk (by omega))]
      refine AW.skip ?_; change AW _ _ _ _ _; refine AW.region ?_; refine AL.r qA ?_; refine AL.rm ?_; refine AL.nil ?_; refine ⟨k + 1, ?_, by first | omega | (simp only []; omega), ?_, ?_⟩
      ·exact ⟨by omega, jD0 (by omega) hok (jI5 (by omega))⟩
      ·exact wk
      exact sk
     refine AL.n ?_; (iterate 3 refine AL.rf ?_); (iterate 2 refine AL.ru ?_); refine AL.rf ?_; refine AL.r qf ?_; refine AL.nil ?_; change AW _ _ _ _ _; refine AW.cond_f rfl ?_; refine AW.skip ?_; change AW _ _ _ _ _; refine AW.region ?_; refine AL.r qA ?_; refine AL.rm ?_; refine AL.nil ?_; refine ⟨k + 1, ?_, by first | omega | (simp only []; omega), ?_, ?_⟩
     ·exact ⟨by omega, jD0 (by omega) hok (jI5 (by omega))⟩
     ·exact wk
     exact sk
    refine AL.n ?_; (iterate 4 refine AL.rf ?_); refine AL.r qf ?_; refine AL.ra ?_; refine AL.nil (AW.g (AL.rm ?_)); refine AL.r qu ?_; refine AL.rm ?_; refine AL.fk (d := 41) rfl (fun h41 => ?_) (fun h41 => ?_)
    ·refine AL.n ?_; refine AL.ro (jAa rfl rfl) ?_; refine AL.ro qu ?_; refine AL.ro (jAa rfl rfl) ?_; (iterate 2 refine AL.rf ?_); refine AL.ro (jAm rfl rfl rfl) ?_; refine AL.r qt ?_; refine AL.nil (AW.cond_t rfl (AW.g (AL.ra ?_))); refine AL.nil (AW.ret (r1t ?_)); rw [jDx (k := k) (by omega) (jGk (by omega))]
    refine AL.n ?_; (iterate 3 refine AL.rf ?_); (iterate 2 refine AL.ru ?_); refine AL.rf ?_; refine AL.r qf ?_; refine AL.nil ?_; change AW _ _ _ _ _; refine AW.cond_f rfl ?_; refine AW.skip ?_; change AW _ _ _ _ _; refine AW.region ?_; refine AL.r qA ?_; refine AL.rm ?_; refine AL.nil ?_; refine ⟨k + 1, ?_, by first | omega | (simp only []; omega), ?_, ?_⟩
    ·exact ⟨by omega, jD0 (by omega) hok (jI5 (by omega))⟩
    ·exact wk
    exact sk
   refine AL.n ?_; (iterate 4 refine AL.rf ?_); refine AL.r qf ?_; refine AL.ra ?_; refine AL.nil (AW.g ?_); (iterate 2 refine AL.rm ?_); refine AL.r (jBt rfl jDb rfl rfl (rfl) (List.getElem?_eq_getElem (by omega))) ?_; refine AL.r qb ?_; refine AL.rm ?_; refine AL.fk (d := 33) rfl (fun h33 => ?_) (fun h33 => ?_)
   ·refine AL.n ?_; refine AL.ro (jAa rfl rfl) ?_; refine AL.ro (jAa rfl rfl) ?_; refine AL.ro (jBt rfl jDb rfl rfl (rfl) (List.getElem?_eq_getElem (by omega))) ?_; refine AL.ro qb ?_; refine AL.r qt ?_; refine AL.ra ?_; refine AL.nil (AW.g (AL.rm ?_)); refine AL.r qu ?_; refine AL.rm ?_; refine AL.ro (jAa rfl rfl) ?_; refine AL.ro qu ?_; refine AL.ro (jAa rfl rfl) ?_; refine AL.fk (d := 44) rfl (fun h44 => ?_) (fun h44 => ?_)
    ·refine AL.n ?_; (iterate 2 refine AL.rf ?_); refine AL.ro (jAm rfl rfl rfl) ?_; refine AL.r qt ?_; refine AL.nil (AW.cond_t rfl (AW.g (AL.ra ?_))); refine AL.nil (AW.ret (r1t ?_)); rw [jDx (k := k) (by omega) (jGk (by omega))]
    refine AL.n ?_; refine AL.ro (jAa rfl rfl) ?_; refine AL.ro qb ?_; refine AL.ro (jAs rfl rfl rfl) ?_; refine AL.r qt ?_; refine AL.nil (AW.cd rfl (fun h48 => ?_) (fun h48 => ?_))
    ·refine AW.g (AL.ra ?_); refine AL.nil (AW.ret (r1t ?_)); rw [jDx (k := k) (by omega) (jGk (by omega))]
    refine AW.skip ?_; change AW _ _ _ _ _; refine AW.region ?_; refine AL.r qA ?_; refine AL.rm ?_; refine AL.nil ?_; refine ⟨k + 1, ?_, by first | omega | (simp only []; omega), ?_, ?_⟩
    ·exact ⟨by omega, jD0 (by omega) hok (jI5 (by omega))⟩
    ·exact wk
    exact sk
   refine AL.n ?_; (iterate 4 refine AL.rf ?_); refine AL.r qf ?_; refine AL.ra ?_; refine AL.nil (AW.g (AL.rm ?_)); refine AL.r qu ?_; refine AL.rm ?_; refine AL.ro (jAa rfl rfl) ?_; refine AL.ro qu ?_; refine AL.ro (jAa rfl rfl) ?_; (iterate 2 refine AL.rf ?_); refine AL.ro (jAm rfl rfl rfl) ?_; refine AL.r qt ?_; refine AL.nil (AW.cond_t rfl (AW.g (AL.ra ?_))); refine AL.nil (AW.ret (r1t ?_)); rw [jDx (k := k) (by omega) (jGk (by omega))]
  refine AW.exit ?_; change AW _ _ _ _ _; refine AW.g (AL.ra ?_); refine AL.nil (AW.ret (r1t ?_)); rw [jLV (by omega) (by omega) (fun i hi => hok i (by omega))]
def jCl (r : RefD) : Bool := (r.scope == 0 || r.scope == 1) && jBB r.name && (r.group == [] || jBB r.group)
theorem jJE (r : RefD) : AC Tryz.prog 78 [r.av] (fun x => x = .s (AB (jCl r))) := by
  refine AC.of' 23 1 Tryz.func78 rfl ?_; change AW _ _ _ _ [TK.mk 0 .off]; refine AW.g (AL.oq (AOpB.op (oB 0 ?_))); refine AL.n ?_; refine AL.ra ?_; refine AL.nil (AW.seq (AW.g (AL.r (qa jB7) ?_))); refine AL.r (ql ag_3) ?_; refine AL.r qb ?_; refine AL.rm ?_; refine AL.fk (d := 6) rfl (fun h6 => ?_) (fun h6 => ?_)
  ·refine AL.n ?_; refine AL.ro (qa jB7) ?_; refine AL.ro (ql ag_3) ?_; refine AL.ro qb ?_; refine AL.r qt ?_; refine AL.nil (AW.cd rfl (fun h10 => ?_) (fun h10 => ?_))
   ·refine AW.g (AL.ra ?_); refine AL.nil (AW.ret (r1t ?_)); simp_all [jCl]
   refine AW.skip (AW.g (AL.r (qa jFo) ?_)); refine AL.r (ql ag_9) ?_; refine AL.cl (jDM _) ?_; refine AL.n ?_; refine AL.rm ?_; refine AL.fk (d := 14) rfl (fun h14 => ?_) (fun h14 => ?_)
   ·refine AL.n ?_; refine AL.ro (qa jC1) ?_; refine AL.ro (ql ag_9) ?_; refine AL.ro (jBi rfl rfl rfl) ?_; refine AL.ro (jAa rfl rfl) ?_; refine AL.fk (d := 18) rfl (fun h18 => ?_) (fun h18 => ?_)
    ·refine AL.n ?_; (iterate 3 refine AL.rf ?_); refine AL.ro (jAm rfl rfl rfl) ?_; refine AL.r qt ?_; refine AL.ra ?_; refine AL.nil (AW.ret (r1t ?_)); simp_all [jCl]
    refine AL.n ?_; refine AL.ro (qa jC1) ?_; refine AL.ro (ql ag_9) ?_; refine AL.on rfl rfl rfl (AOpB.op (jAb (jDM _) rfl (by kernel_rfl) rfl (none) ?_)); rintro r rfl; refine AL.n ?_; refine AL.ro (jAs rfl rfl rfl) ?_; refine AL.r qt ?_; refine AL.ra ?_; refine AL.nil (AW.ret (r1t ?_)); simp_all [jCl]
   refine AL.n ?_; (iterate 4 refine AL.rf ?_); (iterate 3 refine AL.ru ?_); refine AL.rf ?_; refine AL.r qf ?_; refine AL.ra ?_; refine AL.nil (AW.ret (r1t ?_)); simp_all [jCl]
  refine AL.n ?_; (iterate 3 refine AL.rf ?_); refine AL.r qf ?_; refine AL.nil (AW.cond_f rfl (AW.skip (AW.g (AL.r (qa jFo) ?_)))); refine AL.r (ql ag_9) ?_; refine AL.cl (jDM _) ?_; refine AL.n ?_; refine AL.rm ?_; refine AL.fk (d := 14) rfl (fun h14 => ?_) (fun h14 => ?_)
  ·refine AL.n ?_; refine AL.ro (qa jC1) ?_; refine AL.ro (ql ag_9) ?_; refine AL.ro (jBi rfl rfl rfl) ?_; refine AL.ro (jAa rfl rfl) ?_; refine AL.fk (d := 18) rfl (fun h18 => ?_) (fun h18 => ?_)
   ·refine AL.n ?_; (iterate 3 refine AL.rf ?_); refine AL.ro (jAm rfl rfl rfl) ?_; refine AL.r qt ?_; refine AL.ra ?_; refine AL.nil (AW.ret (r1t ?_)); simp_all [jCl]
   refine AL.n ?_; refine AL.ro (qa jC1) ?_; refine AL.ro (ql ag_9) ?_; refine AL.on rfl rfl rfl (AOpB.op (jAb (jDM _) rfl (by kernel_rfl) rfl (none) ?_)); rintro r rfl; refine AL.n ?_; refine AL.ro (jAs rfl rfl rfl) ?_; refine AL.r qt ?_; refine AL.ra ?_; refine AL.nil (AW.ret (r1t ?_)); simp_all [jCl]
  refine AL.n ?_; (iterate 4 refine AL.rf ?_); (iterate 3 refine AL.ru ?_); refine AL.rf ?_; refine AL.r qf ?_; refine AL.ra ?_; refine AL.nil (AW.ret (r1t ?_)); simp_all [jCl]
theorem jHs (s : jAU) : AC Tryz.prog 79 [AS s] (fun x => x = .s (AB (decide (s.length ≤ 40)))) := by
  refine AC.of' 5 0 Tryz.func79 rfl ?_; change AW _ _ _ _ []; refine AW.g (AL.ra ?_); refine AL.nil (AW.g (AL.rm ?_)); refine AL.r (jBF rfl jDb rfl) ?_; refine AL.r qb ?_; refine AL.ra ?_; refine AL.nil (AW.ret (r1t ?_))
  (congr 3; simp only [decide_eq_decide]; omega)
theorem index_c (l : List jAU) (s : jAU) : AC Tryz.prog 168 [.sl (csS l), AS s] (fun x => x = .s (AI (match l.findIdx? (· == s) with | some i => (i : Int) | none => -1))) := by
  refine AC.of' 17 0 Tryz.func168 rfl ?_; change AW _ _ _ _ []; refine AW.g (AL.ra ?_); refine AL.nil (AW.seq (AW.g (AL.len (x := .tmp 0) rfl (fun hlen => ?_)))); refine AL.rm ?_; rw [jAQ] at hlen; refine AL.r (lN jCz) ?_
  unfold maxLen at hlen
  refine AL.rm ?_; refine AL.nil (AW.block (AW.loopM (ι := Nat) [4, 5, 9, 10, 11, 12, 13, 14, 15, 16, 17, 18] (fun k => [(8, AI (k : Int))]) [] (fun k => []) (fun k => k ≤ l.length ∧ ∀ i (hi : i < l.length), i < k → (l[i] == s) = false) (fun k => l.length - k) 0 (⟨by omega, fun i _ hi => absurd hi (by omega)⟩) wk sk ?_)); rintro k gs hJ; refine AW.nm ?_; obtain ⟨hk, hok⟩ := hJ; refine AW.g (AL.r qb ?_); refine AL.nil (AW.seq (AW.cd rfl (fun h9 => ?_) (fun h9 => ?_)))
  ·refine AW.skip (AW.seq (AW.block (AW.g (AL.rm ?_)))); refine AL.ra ?_; refine AL.nil (AW.g ?_); (iterate 3 refine AL.rm ?_); refine AL.r (jAc rfl jCz rfl rfl rfl (jAy (by omega)) rfl) ?_; refine AL.r (jAl rfl ag_9 rfl rfl) ?_; refine AL.r (jBi rfl rfl rfl) ?_; refine AL.nil (AW.cd rfl (fun h16 => ?_) (fun h16 => ?_))
   ·refine AW.g (AL.rm ?_); refine AL.ra ?_; refine AL.nil (AW.ret (r1t ?_)); rw [jMP (by omega) hok (by simp [h16])]
   refine AW.skip ?_; change AW _ _ _ _ _; refine AW.region ?_; refine AL.r qA ?_; refine AL.rm ?_; refine AL.nil ?_; refine ⟨k + 1, ?_, by first | omega | (simp only []; omega), ?_, ?_⟩
   ·exact ⟨by omega, jC8 (p := fun y => (y == s) = false) (by omega) hok (by simp; exact fun e => h16 e.symm)⟩
   ·exact wk
   exact sk
  refine AW.exit ?_; change AW _ _ _ _ _; refine AW.g (AL.ra ?_); refine AL.nil (AW.ret (r1t ?_)); rw [jL8 (fun i hi => hok i hi (by omega))]
theorem jI6 (l : List jAU) (s : jAU) : decide ((match l.findIdx? (· == s) with | some i => (i : Int) | none => -1) ≥ 0) = l.contains s := by
  cases h : l.findIdx? (· == s) with
  | none =>
    have := List.findIdx?_eq_none_iff.1 h
    have h2 : l.contains s = false := by
      rw [List.contains_eq_any_beq, List.any_eq_false]
      intro x hx
      have := this x hx
      simp at this ⊢
      exact fun e => this e.symm
    rw [h2]; rfl
  | some i =>
    have hm := List.findIdx?_eq_some_iff_getElem.1 h
    obtain ⟨h1, h2, _⟩ := hm
    have h3 : l.contains s = true := by
      rw [List.contains_eq_any_beq, List.any_eq_true]
      exact ⟨l[i], List.getElem_mem h1, by simp at h2 ⊢; exact h2.symm⟩
    rw [h3]
    simp
theorem jHk (l : List jAU) (s : jAU) : AC Tryz.prog 152 [.sl (csS l), AS s] (fun x => x = .s (AB (l.contains s))) := by
  refine AC.of' 7 0 Tryz.func152 rfl ?_; change AW _ _ _ _ []; refine AW.g (AL.ra ?_); refine AL.nil (AW.g ?_); (iterate 2 refine AL.rm ?_); refine AL.cl (index_c _ _) ?_; refine AL.n ?_; refine AL.r qb ?_; refine AL.ra ?_; refine AL.nil (AW.ret (r1t ?_)); rw [jI6]
theorem equal_c (l m : List jAU) : AC Tryz.prog 158 [.sl (csS l), .sl (csS m)] (fun x => x = .s (AB (decide (l = m)))) := by
  refine AC.of' 24 0 Tryz.func158 rfl ?_; change AW _ _ _ _ []; refine AW.g (AL.ra ?_); refine AL.nil (AW.seq (AW.g (AL.len (x := .tmp 0) rfl (fun hlen => ?_)))); rw [jAQ] at hlen; unfold maxLen at hlen; refine AL.rm ?_; refine AL.r (lN jCz) ?_; refine AL.rm ?_; refine AL.r (lN jCz) ?_; refine AL.r qb ?_; refine AL.nil (AW.cd rfl (fun h10 => ?_) (fun h10 => ?_))
  ·refine AW.g (AL.ra ?_); refine AL.nil (AW.ret (r1t ?_)); rw [decide_eq_false (fun e => by subst e; simp at h10)]
  refine AW.skip (AW.seq (AW.g (AL.rm ?_))); refine AL.r (lN jCz) ?_; refine AL.rm ?_; refine AL.nil (AW.block (AW.loopM (ι := Nat) [4, 5, 14, 15, 16, 17, 18, 19, 20, 21, 22, 23, 24, 25] (fun k => [(13, AI (k : Int))]) [] (fun k => []) (fun k => k ≤ l.length ∧ l.take k = m.take k) (fun k => l.length - k) 0 (⟨by omega, rfl⟩) wk sk ?_)); rintro k gs hJ; refine AW.nm ?_; obtain ⟨hk, hok⟩ := hJ; refine AW.g (AL.r qb ?_); refine AL.nil (AW.seq (AW.cd rfl (fun h14 => ?_) (fun h14 => ?_)))
  ·refine AW.skip (AW.seq (AW.block (AW.g (AL.rm ?_)))); refine AL.ra ?_; refine AL.nil (AW.seq (AW.draw (by kernel_rfl) ?_)); refine AD.r 0 rfl (jAa rfl rfl) rfl ?_; refine AD.r 1 rfl (jAa rfl rfl) rfl ?_; refine AD.r 2 rfl (jAc rfl jCz rfl rfl rfl (jAy (by omega)) rfl) rfl ?_; refine AD.r 3 rfl (jAl rfl ag_9 rfl rfl) rfl ?_; refine AD.r 4 rfl (jAa rfl rfl) rfl ?_; refine AD.r 5 rfl (jAa rfl rfl) rfl ?_; refine AD.r 6 rfl (jAc rfl jCz rfl rfl rfl (jAy (by omega)) rfl) rfl ?_; refine AD.r 7 rfl (jAl rfl ag_9 rfl rfl) rfl ?_; refine AD.r 8 rfl (jEc rfl rfl rfl) rfl ?_; refine AD.done (by kernel_rfl) ?_; change AW _ _ _ _ _; refine AW.cd rfl (fun h24 => ?_) (fun h24 => ?_)
   ·refine AW.g (AL.ra ?_); refine AL.nil (AW.ret (r1t ?_)); rw [decide_eq_false (fun e => by subst e; exact h24 rfl)]
   refine AW.skip ?_; change AW _ _ _ _ _; refine AW.region ?_; refine AL.r qA ?_; refine AL.rm ?_; refine AL.nil ?_; refine ⟨k + 1, ?_, by first | omega | (simp only []; omega), ?_, ?_⟩
   ·exact ⟨by omega, jBN (by omega) (by omega) hok h24⟩
   ·exact wk
   exact sk
  refine AW.exit ?_; change AW _ _ _ _ _; refine AW.g (AL.ra ?_); refine AL.nil (AW.ret (r1t ?_)); rw [decide_eq_true (by rw [List.take_of_length_le (by omega), List.take_of_length_le (by omega)] at hok; exact hok)]
structure FldD where
  at_ : RefD
  kind : Int
  dflt : jAU
  cases : List jAU
  worth : Int
deriving DecidableEq
def FldD.cs (f : FldD) : List AV := [AI f.at_.scope, AS f.at_.group, AS f.at_.name, AI f.kind, AS f.dflt, .sl (csS f.cases), AI f.worth]
abbrev FldD.av (f : FldD) : AV := .ag f.cs
def jD1 (l : List jAU) : Bool := decide (1 ≤ l.length) && decide (l.length ≤ 6) && (List.range l.length).all fun i => jBB (l.getD i []) && !(l.take i).contains (l.getD i [])
theorem jKB {l : List jAU} (h1 : 1 ≤ l.length) (h2 : l.length ≤ 6) (h : ∀ i (hi : i < l.length), (jBB l[i] && !(l.take i).contains l[i]) = true) : jD1 l = true := by
  unfold jD1
  simp only [h1, h2, decide_true, Bool.true_and, List.all_eq_true, List.mem_range]
  intro i hi; rw [List.getD_eq_getElem?_getD, List.getElem?_eq_getElem hi]; exact h i hi
theorem jGr {l : List jAU} {k : Nat} (hk : k < l.length) (h : (jBB l[k] && !(l.take k).contains l[k]) = false) : jD1 l = false := by
  unfold jD1
  have : ((List.range l.length).all fun i => jBB (l.getD i []) && !(l.take i).contains (l.getD i [])) = false := by
    rw [List.all_eq_false]
    exact ⟨k, List.mem_range.2 hk, by rw [List.getD_eq_getElem?_getD, List.getElem?_eq_getElem hk]; simpa using h⟩
  rw [this, Bool.and_false]
theorem jHq {l : List jAU} {k : Nat} (hk : k < l.length) (h : ∀ i (hi : i < l.length), i < k → (jBB l[i] && !(l.take i).contains l[i]) = true) (h' : (jBB l[k] && !(l.take k).contains l[k]) = true) : ∀ i (hi : i < l.length), i < k + 1 → (jBB l[i] && !(l.take i).contains l[i]) = true := fun i hi hik => by
  rcases Nat.lt_or_ge i k with h1 | h1
  · exact h i hi h1
  obtain rfl : i = k := by omega
  exact h'
theorem cases_c (l : List jAU) : AC Tryz.prog 151 [.sl (csS l)] (fun x => x = .s (AB (jD1 l))) := by
  refine AC.of' 30 0 Tryz.func151 rfl ?_; change AW _ _ _ _ []; refine AW.g (AL.ra ?_); refine AL.nil (AW.seq (AW.g (AL.rm ?_))); refine AL.r (lN jCz) ?_; refine AL.r qb ?_; refine AL.rm ?_; refine AL.fk (d := 8) rfl (fun h8 => ?_) (fun h8 => ?_)
  ·refine AL.n ?_; (iterate 3 refine AL.rf ?_); refine AL.r qt ?_; refine AL.nil (AW.cond_t rfl (AW.g (AL.ra ?_))); refine AL.nil (AW.ret (r1t ?_))
   (have : jD1 l = false := by (unfold jD1; simp; omega)); simp_all
  refine AL.n ?_; refine AL.ro (jAa rfl rfl) ?_; refine AL.ro (lN jCz) ?_; refine AL.ro qb ?_; refine AL.r qf ?_; refine AL.nil (AW.cd rfl (fun h12 => ?_) (fun h12 => ?_))
  ·refine AW.g (AL.ra ?_); refine AL.nil (AW.ret (r1t ?_))
   (have : jD1 l = false := by (unfold jD1; simp; omega)); simp_all
  refine AW.skip (AW.seq (AW.g (AL.rm ?_))); refine AL.r (lN jCz) ?_; refine AL.rm ?_; refine AL.nil (AW.block (AW.loopM (ι := Nat) [2, 3, 4, 16, 17, 18, 19, 20, 21, 22, 23, 24, 25, 26, 27, 28, 29, 30] (fun k => [(15, AI (k : Int))]) [] (fun k => []) (fun k => k ≤ l.length ∧ ∀ i (hi : i < l.length), i < k → (jBB l[i] && !(l.take i).contains l[i]) = true) (fun k => l.length - k) 0 (⟨by omega, fun i _ hi => absurd hi (by omega)⟩) wk sk ?_)); rintro k gs hJ; refine AW.nm ?_; obtain ⟨hk, hok⟩ := hJ; refine AW.g (AL.r qb ?_); refine AL.nil (AW.seq (AW.cd rfl (fun h16 => ?_) (fun h16 => ?_)))
  ·refine AW.skip (AW.seq (AW.block (AW.g (AL.rm ?_)))); refine AL.r (jAc rfl jCz rfl rfl rfl (jAy (by omega)) rfl) ?_; refine AL.r (jAl rfl ag_9 rfl rfl) ?_; (iterate 2 refine AL.ra ?_); refine AL.nil (AW.g (AL.rm ?_)); refine AL.cl (jDM _) ?_; refine AL.n ?_; refine AL.r qu ?_; refine AL.rm ?_; refine AL.fk (d := 23) rfl (fun h23 => ?_) (fun h23 => ?_)
   ·refine AL.n ?_; (iterate 5 refine AL.rf ?_); refine AL.r qt ?_; refine AL.nil (AW.cond_t rfl (AW.g (AL.ra ?_))); refine AL.nil (AW.ret (r1t ?_)); rw [jGr (k := k) (by omega) (by simp_all)]
   refine AL.n ?_; refine AL.ro (jAa rfl rfl) ?_; refine AL.ro (jAa rfl rfl) ?_; refine AL.ro (jB8 rfl jCz rfl (by first | (intro cs hcs; obtain ⟨_, _, rfl⟩ := List.mem_map.1 hcs; rfl) | simp) rfl ⟨_, _, rfl, rfl⟩ (by omega) (by rw [jAQ]; omega)) ?_; refine AL.ro (jAa rfl rfl) ?_; refine AL.on rfl rfl rfl (AOpB.op (jAb (jHk (l.take k) _) rfl (by kernel_rfl) rfl (none) ?_)); rintro r rfl; refine AL.n ?_; refine AL.r qf ?_; refine AL.nil (AW.cd rfl (fun h29 => ?_) (fun h29 => ?_))
   ·refine AW.g (AL.ra ?_); refine AL.nil (AW.ret (r1t ?_)); rw [jGr (k := k) (by omega) (by simp_all)]
   refine AW.skip ?_; change AW _ _ _ _ _; refine AW.region ?_; refine AL.r qA ?_; refine AL.rm ?_; refine AL.nil ?_; refine ⟨k + 1, ?_, by first | omega | (simp only []; omega), ?_, ?_⟩
   ·exact ⟨by omega, jHq (by omega) hok (by simp_all)⟩
   ·exact wk
   exact sk
  refine AW.exit ?_; change AW _ _ _ _ _; refine AW.g (AL.ra ?_); refine AL.nil (AW.ret (r1t ?_)); rw [jKB (by omega) (by omega) (fun i hi => hok i hi (by omega))]
end Go.Proofs.YtlapcfnmmpbeeaaGreat
