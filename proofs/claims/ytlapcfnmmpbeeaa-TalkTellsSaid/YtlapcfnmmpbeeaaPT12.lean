/- A part of a proof. -/
import Derived.Test.YtlapcfnmmpbeeaaPT10
set_option linter.unusedSimpArgs false
set_option linter.unusedVariables false
namespace Go.Proofs.Ytlapcfnmmpbeeaa
set_option maxRecDepth 100000
open Go.RowKit
def rightF (f : FldD) : Bool := placeB f.at_ &&
  (if f.kind = 1 then f.dflt == [] && f.cases == [] && decide (1 ≤ f.worth) && decide (f.worth ≤ 1048576)
   else if f.kind = 2 then decide (f.dflt.length ≤ 40) && f.cases == [] && f.worth == 0
   else if f.kind = 3 then casesB f.cases && f.cases.contains f.dflt && f.worth == 0
   else if f.kind = 4 then f.dflt == [] && f.cases == [] && f.worth == 0 else false)
theorem beq_dec {α : Type} [DecidableEq α] (a b : α) : (a == b) = decide (a = b) := by by_cases h : a = b <;> simp [h]
theorem len0 {α : Type} [BEq α] [LawfulBEq α] (l : List α) : ((l.length : Int) == 0) = (l == []) := by cases l <;> simp; omega
theorem right_c (f : FldD) : AC Try.prog 84 [f.av] (fun x => x = .s (AB (rightF f))) := by
  refine AC.of' 74 1 Try.func84 rfl ?_; change AW _ _ _ _ [TK.mk 0 .off]; refine AW.g (AL.oq (AOpB.op (oB 0 ?_))); refine AL.n ?_; refine AL.ra ?_; refine AL.nil (AW.seq (AW.g (AL.r (qa fo_58_0) ?_))); refine AL.r (qN ag_55) ?_; refine AL.cl (place_c f.at_) ?_; refine AL.n ?_; refine AL.r qu ?_; refine AL.nil (AW.cd rfl (fun h7 => ?_) (fun h7 => ?_))
  ·refine AW.g (AL.ra ?_); refine AL.nil (AW.ret (r1t ?_))
   (simp_all [rightF, len0] <;> (intros; omega))
  refine AW.skip (AW.g (AL.r (qa fo_58_3) ?_)); refine AL.r (ql ag_56) ?_; refine AL.r (lN el_56) ?_; refine AL.r qb ?_; refine AL.ra ?_; refine AL.nil (AW.seq (AW.g (AL.r (qa fo_58_1) ?_))); refine AL.r (ql ag_3) ?_; refine AL.nil (AW.block (AW.g (AL.r qb ?_))); refine AL.ra ?_; refine AL.nil (AW.cd rfl (fun h14 => ?_) (fun h14 => ?_))
  ·refine AW.g (AL.r (qa fo_58_2) ?_); refine AL.r (ql ag_9) ?_; refine AL.r (rd_seq rfl rfl rfl) ?_; refine AL.rm ?_; refine AL.fk (d := 19) rfl (fun h19 => ?_) (fun h19 => ?_)
   ·refine AL.n ?_; refine AL.ro (rd_move rfl rfl) ?_; refine AL.r qt ?_; refine AL.rm ?_; refine AL.fk (d := 22) rfl (fun h22 => ?_) (fun h22 => ?_)
    ·refine AL.n ?_; refine AL.ro (qa fo_58_4) ?_; refine AL.ro (ql ag_2) ?_; refine AL.ro qb ?_; refine AL.r qt ?_; refine AL.rm ?_; refine AL.fk (d := 27) rfl (fun h27 => ?_) (fun h27 => ?_)
     ·refine AL.n ?_; refine AL.ro (qa fo_58_4) ?_; refine AL.ro (ql ag_2) ?_; refine AL.ro qb ?_; refine AL.r qt ?_; refine AL.ra ?_; refine AL.nil (AW.ret (r1t ?_))
      (simp_all [rightF, len0] <;> (intros; omega))
     refine AL.n ?_; (iterate 3 refine AL.rf ?_); refine AL.r qf ?_; refine AL.ra ?_; refine AL.nil (AW.ret (r1t ?_))
     (simp_all [rightF, len0] <;> (intros; omega))
    refine AL.n ?_; (iterate 3 refine AL.rf ?_); refine AL.r qf ?_; refine AL.rm ?_; (iterate 3 refine AL.rf ?_); refine AL.r qf ?_; refine AL.ra ?_; refine AL.nil (AW.ret (r1t ?_))
    (simp_all [rightF, len0] <;> (intros; omega))
   refine AL.n ?_; refine AL.rf ?_; (iterate 2 (refine AL.r qf ?_; refine AL.rm ?_; (iterate 3 refine AL.rf ?_))); refine AL.r qf ?_; refine AL.ra ?_; refine AL.nil (AW.ret (r1t ?_))
   (simp_all [rightF, len0] <;> (intros; omega))
  refine AW.g (AL.r qb ?_); refine AL.ra ?_; refine AL.nil (AW.cd rfl (fun h32 => ?_) (fun h32 => ?_))
  ·refine AW.g (AL.r (qa fo_58_2) ?_); refine AL.r (ql ag_9) ?_; refine AL.cl (text_c _) ?_; refine AL.n ?_; refine AL.rm ?_; refine AL.fk (d := 37) rfl (fun h37 => ?_) (fun h37 => ?_)
   ·refine AL.n ?_; refine AL.ro (rd_move rfl rfl) ?_; refine AL.r qt ?_; refine AL.rm ?_; refine AL.fk (d := 40) rfl (fun h40 => ?_) (fun h40 => ?_)
    ·refine AL.n ?_; refine AL.ro (qa fo_58_4) ?_; refine AL.ro (ql ag_2) ?_; refine AL.ro qb ?_; refine AL.r qt ?_; refine AL.ra ?_; refine AL.nil (AW.ret (r1t ?_))
     (simp_all [rightF, len0] <;> (intros; omega))
    refine AL.n ?_; (iterate 3 refine AL.rf ?_); refine AL.r qf ?_; refine AL.ra ?_; refine AL.nil (AW.ret (r1t ?_))
    (simp_all [rightF, len0] <;> (intros; omega))
   refine AL.n ?_; refine AL.rf ?_; refine AL.r qf ?_; refine AL.rm ?_; (iterate 3 refine AL.rf ?_); refine AL.r qf ?_; refine AL.ra ?_; refine AL.nil (AW.ret (r1t ?_))
   (simp_all [rightF, len0] <;> (intros; omega))
  refine AW.g (AL.r qb ?_); refine AL.ra ?_; refine AL.nil (AW.cd rfl (fun h45 => ?_) (fun h45 => ?_))
  ·refine AW.g (AL.r (qa fo_58_3) ?_); refine AL.r (ql ag_56) ?_; refine AL.cl (cases_c _) ?_; refine AL.n ?_; refine AL.rm ?_; refine AL.fk (d := 50) rfl (fun h50 => ?_) (fun h50 => ?_)
   ·refine AL.n ?_; refine AL.ro (qa fo_58_3) ?_; refine AL.ro (ql ag_56) ?_; refine AL.ro (qa fo_58_2) ?_; refine AL.ro (ql ag_9) ?_; refine AL.on rfl rfl rfl (AOpB.op (op_call (contains_c _ _) rfl (by kernel_rfl) rfl (none) ?_)); rintro r rfl; refine AL.n ?_; refine AL.r qt ?_; refine AL.rm ?_; refine AL.fk (d := 57) rfl (fun h57 => ?_) (fun h57 => ?_)
    ·refine AL.n ?_; refine AL.ro (qa fo_58_4) ?_; refine AL.ro (ql ag_2) ?_; refine AL.ro qb ?_; refine AL.r qt ?_; refine AL.ra ?_; refine AL.nil (AW.ret (r1t ?_))
     (simp_all [rightF, len0] <;> (intros; omega))
    refine AL.n ?_; (iterate 3 refine AL.rf ?_); refine AL.r qf ?_; refine AL.ra ?_; refine AL.nil (AW.ret (r1t ?_))
    (simp_all [rightF, len0] <;> (intros; omega))
   refine AL.n ?_; (iterate 5 refine AL.rf ?_); refine AL.r qf ?_; refine AL.rm ?_; (iterate 3 refine AL.rf ?_); refine AL.r qf ?_; refine AL.ra ?_; refine AL.nil (AW.ret (r1t ?_))
   (simp_all [rightF, len0] <;> (intros; omega))
  refine AW.g (AL.r qb ?_); refine AL.ra ?_; refine AL.nil (AW.cd rfl (fun h62 => ?_) (fun h62 => ?_))
  ·refine AW.g (AL.r (qa fo_58_2) ?_); refine AL.r (ql ag_9) ?_; refine AL.r (rd_seq rfl rfl rfl) ?_; refine AL.rm ?_; refine AL.fk (d := 67) rfl (fun h67 => ?_) (fun h67 => ?_)
   ·refine AL.n ?_; refine AL.ro (rd_move rfl rfl) ?_; refine AL.r qt ?_; refine AL.rm ?_; refine AL.fk (d := 70) rfl (fun h70 => ?_) (fun h70 => ?_)
    ·refine AL.n ?_; refine AL.ro (qa fo_58_4) ?_; refine AL.ro (ql ag_2) ?_; refine AL.ro qb ?_; refine AL.r qt ?_; refine AL.ra ?_; refine AL.nil (AW.ret (r1t ?_))
     (simp_all [rightF, len0] <;> (intros; omega))
    refine AL.n ?_; (iterate 3 refine AL.rf ?_); refine AL.r qf ?_; refine AL.ra ?_; refine AL.nil (AW.ret (r1t ?_))
    (simp_all [rightF, len0] <;> (intros; omega))
   refine AL.n ?_; refine AL.rf ?_; refine AL.r qf ?_; refine AL.rm ?_; (iterate 3 refine AL.rf ?_); refine AL.r qf ?_; refine AL.ra ?_; refine AL.nil (AW.ret (r1t ?_))
   (simp_all [rightF, len0] <;> (intros; omega))
  refine AW.skip (AW.g (AL.ra ?_)); refine AL.nil (AW.ret (r1t ?_))
  (simp_all [rightF, len0] <;> (intros; omega))
theorem same_c (f g : FldD) : AC Try.prog 90 [f.av, g.av] (fun x => x = .s (AB (decide (f = g)))) := by
  refine AC.of' 36 2 Try.func90 rfl ?_; change AW _ _ _ _ [TK.mk 0 .off, TK.mk 0 .off]; refine AW.g (AL.oq (AOpB.op (oB 0 ?_))); refine AL.n ?_; refine AL.oq (AOpB.op (oB 1 ?_)); refine AL.n ?_; refine AL.ra ?_; refine AL.nil (AW.g ?_); (iterate 2 (refine AL.r (qa fo_58_0) ?_; refine AL.r (qN ag_55) ?_)); refine AL.r (rd_eq_Ref rfl rfl rfl) ?_; refine AL.rm ?_; refine AL.fk (d := 10) rfl (fun h10 => ?_) (fun h10 => ?_)
  ·refine AL.n ?_; (iterate 2 (refine AL.ro (qa fo_58_1) ?_; refine AL.ro (ql ag_3) ?_)); refine AL.ro qb ?_; refine AL.r qt ?_; refine AL.rm ?_; refine AL.fk (d := 17) rfl (fun h17 => ?_) (fun h17 => ?_)
   ·refine AL.n ?_; (iterate 2 (refine AL.ro (qa fo_58_2) ?_; refine AL.ro (ql ag_9) ?_)); refine AL.ro (rd_seq rfl rfl rfl) ?_; refine AL.r qt ?_; refine AL.rm ?_; refine AL.fk (d := 24) rfl (fun h24 => ?_) (fun h24 => ?_)
    ·refine AL.n ?_; (iterate 2 (refine AL.ro (qa fo_58_3) ?_; refine AL.ro (ql ag_56) ?_)); refine AL.on rfl rfl rfl (AOpB.op (op_call (equal_c _ _) rfl (by kernel_rfl) rfl (none) ?_)); rintro r rfl; refine AL.n ?_; refine AL.r qt ?_; refine AL.rm ?_; refine AL.fk (d := 31) rfl (fun h31 => ?_) (fun h31 => ?_)
     ·refine AL.n ?_; (iterate 2 (refine AL.ro (qa fo_58_4) ?_; refine AL.ro (ql ag_2) ?_)); refine AL.ro qb ?_; refine AL.r qt ?_; refine AL.ra ?_; refine AL.nil (AW.ret (r1t ?_))
      (obtain ⟨⟨s1, g1, n1⟩, k1, d1, c1, w1⟩ := f; obtain ⟨⟨s2, g2, n2⟩, k2, d2, c2, w2⟩ := g; simp_all [beq_dec])
     refine AL.n ?_; (iterate 5 refine AL.rf ?_); refine AL.r qf ?_; refine AL.ra ?_; refine AL.nil (AW.ret (r1t ?_))
     (obtain ⟨⟨s1, g1, n1⟩, k1, d1, c1, w1⟩ := f; obtain ⟨⟨s2, g2, n2⟩, k2, d2, c2, w2⟩ := g; simp_all [beq_dec])
    refine AL.n ?_; (iterate 5 refine AL.rf ?_); refine AL.r qf ?_; refine AL.rm ?_; (iterate 5 refine AL.rf ?_); refine AL.r qf ?_; refine AL.ra ?_; refine AL.nil (AW.ret (r1t ?_))
    (obtain ⟨⟨s1, g1, n1⟩, k1, d1, c1, w1⟩ := f; obtain ⟨⟨s2, g2, n2⟩, k2, d2, c2, w2⟩ := g; simp_all [beq_dec])
   refine AL.n ?_; (iterate 2 ((iterate 5 refine AL.rf ?_); refine AL.r qf ?_; refine AL.rm ?_)); (iterate 5 refine AL.rf ?_); refine AL.r qf ?_; refine AL.ra ?_; refine AL.nil (AW.ret (r1t ?_))
   (obtain ⟨⟨s1, g1, n1⟩, k1, d1, c1, w1⟩ := f; obtain ⟨⟨s2, g2, n2⟩, k2, d2, c2, w2⟩ := g; simp_all [beq_dec])
  refine AL.n ?_; (iterate 3 ((iterate 5 refine AL.rf ?_); refine AL.r qf ?_; refine AL.rm ?_)); (iterate 5 refine AL.rf ?_); refine AL.r qf ?_; refine AL.ra ?_; refine AL.nil (AW.ret (r1t ?_))
  (obtain ⟨⟨s1, g1, n1⟩, k1, d1, c1, w1⟩ := f; obtain ⟨⟨s2, g2, n2⟩, k2, d2, c2, w2⟩ := g; simp_all [beq_dec])
set_option maxRecDepth 100000
def heavyF (f : FldD) : Bool := decide (200 < f.at_.group.length) || decide (200 < f.at_.name.length) || decide (200 < f.dflt.length) || decide (20 < f.cases.length) || f.cases.any fun c => decide (200 < c.length)
theorem heavyF_f {f : FldD} (h : heavyF f = false) : f.at_.group.length ≤ 200 ∧ f.at_.name.length ≤ 200 ∧ f.dflt.length ≤ 200 ∧ f.cases.length ≤ 20 ∧ ∀ c ∈ f.cases, c.length ≤ 200 := by
  unfold heavyF at h
  simp only [Bool.or_eq_false_iff, decide_eq_false_iff_not, List.any_eq_false, decide_eq_true_eq] at h
  obtain ⟨⟨⟨⟨h1, h2⟩, h3⟩, h4⟩, h5⟩ := h
  exact ⟨by omega, by omega, by omega, by omega, fun c hc => by have := h5 c hc; omega⟩
theorem any_f {α : Type} {l : List α} {p : α → Bool} (h : ∀ i (hi : i < l.length), p l[i] = false) : l.any p = false := by
  rw [List.any_eq_false]
  intro x hx; obtain ⟨i, hi, rfl⟩ := List.getElem_of_mem hx; rw [h i hi]; simp
theorem any_t {α : Type} {l : List α} {p : α → Bool} {k : Nat} (hk : k < l.length) (h : p l[k] = true) : l.any p = true := List.any_eq_true.2 ⟨_, List.getElem_mem hk, h⟩
theorem rheavy_c (f : FldD) : AC Try.prog 61 [f.av] (fun x => x = .s (AB (heavyF f))) := by
  refine AC.of' 41 1 Try.func61 rfl ?_; change AW _ _ _ _ [TK.mk 0 .off]; refine AW.g (AL.oq (AOpB.op (oB 0 ?_))); refine AL.n ?_; refine AL.ra ?_; refine AL.nil (AW.seq (AW.g (AL.r (qa fo_58_0) ?_))); refine AL.r (qa fo_55_1) ?_; refine AL.r (ql ag_9) ?_; refine AL.r (rd_len_str rfl str_9 rfl) ?_; refine AL.r qb ?_; refine AL.rm ?_; refine AL.fk (d := 9) rfl (fun h9 => ?_) (fun h9 => ?_)
  ·refine AL.n ?_; (iterate 5 refine AL.rf ?_); (iterate 2 (refine AL.r qt ?_; refine AL.rm ?_; (iterate 4 refine AL.rf ?_))); refine AL.r qt ?_; refine AL.nil (AW.cond_t rfl (AW.g (AL.ra ?_))); refine AL.nil (AW.ret (r1t ?_))
   (have : heavyF f = true := by (unfold heavyF; simp; omega)); rw [this]
  refine AL.n ?_; refine AL.ro (qa fo_58_0) ?_; refine AL.ro (qa fo_55_2) ?_; refine AL.ro (ql ag_9) ?_; refine AL.ro (rd_len_str rfl str_9 rfl) ?_; refine AL.ro qb ?_; refine AL.r qf ?_; refine AL.rm ?_; refine AL.fk (d := 16) rfl (fun h16 => ?_) (fun h16 => ?_)
  ·refine AL.n ?_; (iterate 4 refine AL.rf ?_); refine AL.r qt ?_; refine AL.rm ?_; (iterate 4 refine AL.rf ?_); refine AL.r qt ?_; refine AL.nil (AW.cond_t rfl (AW.g (AL.ra ?_))); refine AL.nil (AW.ret (r1t ?_))
   (have : heavyF f = true := by (unfold heavyF; simp; omega)); rw [this]
  refine AL.n ?_; refine AL.ro (qa fo_58_2) ?_; refine AL.ro (ql ag_9) ?_; refine AL.ro (rd_len_str rfl str_9 rfl) ?_; refine AL.ro qb ?_; refine AL.r qf ?_; refine AL.rm ?_; refine AL.fk (d := 22) rfl (fun h22 => ?_) (fun h22 => ?_)
  ·refine AL.n ?_; (iterate 4 refine AL.rf ?_); refine AL.r qt ?_; refine AL.nil (AW.cond_t rfl (AW.g (AL.ra ?_))); refine AL.nil (AW.ret (r1t ?_))
   (have : heavyF f = true := by (unfold heavyF; simp; omega)); rw [this]
  refine AL.n ?_; refine AL.ro (qa fo_58_3) ?_; refine AL.ro (ql ag_56) ?_; refine AL.ro (lN el_56) ?_; refine AL.ro qb ?_; refine AL.r qf ?_; refine AL.nil (AW.cd rfl (fun h27 => ?_) (fun h27 => ?_))
  ·refine AW.g (AL.ra ?_); refine AL.nil (AW.ret (r1t ?_))
   (have : heavyF f = true := by (unfold heavyF; simp; omega)); rw [this]
  refine AW.skip (AW.seq (AW.g (AL.ra ?_))); refine AL.nil (AW.block (AW.loopM (ι := Nat) [2, 28, 29, 30, 31, 32, 33, 34, 35, 36, 37, 38, 39, 40, 41] (fun k => [(3, AI (k : Int))]) [] (fun k => []) (fun k => k ≤ f.cases.length ∧ ∀ i (hi : i < f.cases.length), i < k → decide (200 < f.cases[i].length) = false) (fun k => f.cases.length - k) 0 (⟨by omega, fun i _ hi => absurd hi (by omega)⟩) wk sk ?_)); rintro k gs hJ; refine AW.nm ?_; obtain ⟨hk, hok⟩ := hJ; refine AW.seq (AW.g (AL.rm ?_)); refine AL.r (qa fo_58_3) ?_; refine AL.r (ql ag_56) ?_; refine AL.r (lN el_56) ?_; refine AL.r qb ?_; refine AL.nil (AW.cd rfl (fun h32 => ?_) (fun h32 => ?_))
  ·refine AW.skip (AW.seq (AW.block (AW.g (AL.r (qa fo_58_3) ?_)))); refine AL.r (ql ag_56) ?_; refine AL.rm ?_; refine AL.r (rd_iaddr_sl rfl el_56 rfl rfl rfl (get_mapA (by omega)) rfl) ?_; refine AL.r (rd_load_ep rfl ag_9 rfl rfl) ?_; refine AL.r (rd_len_str rfl str_9 rfl) ?_; refine AL.r qb ?_; refine AL.nil (AW.cd rfl (fun h41 => ?_) (fun h41 => ?_))
   ·refine AW.g (AL.ra ?_); refine AL.nil (AW.ret (r1t ?_))
    (have : heavyF f = true := by (unfold heavyF; rw [any_t (k := k) (by omega) (by simp; omega)]; simp)); rw [this]
   refine AW.skip ?_; change AW _ _ _ _ _; refine AW.region ?_; refine AL.rm ?_; refine AL.r qA ?_; refine AL.ra ?_; refine AL.nil ?_; refine ⟨k + 1, ?_, by first | omega | (simp only []; omega), ?_, ?_⟩
   ·exact ⟨by omega, all_nextL (p := fun (y : Bytes) => decide (200 < y.length) = false) (by omega) hok (by simp; omega)⟩
   ·exact wk
   exact sk
  refine AW.exit ?_; change AW _ _ _ _ _; refine AW.g (AL.ra ?_); refine AL.nil (AW.ret (r1t ?_))
  (have : heavyF f = false := by (unfold heavyF; rw [any_f (fun i hi => hok i hi (by omega))]; simp; omega)); rw [this]
end Go.Proofs.Ytlapcfnmmpbeeaa
