/- A part of a proof. -/
import Derived.Test.YtlapcfnmmpbeeaaGreatPO27
set_option linter.unusedSimpArgs false
set_option linter.unusedVariables false
namespace Go.Proofs.YtlapcfnmmpbeeaaGreat
set_option maxRecDepth 100000
open Go.RowKit
def jEm : FldD := ⟨⟨0, [], []⟩, 0, [], [], 0⟩
def jGb (x : LensD) : Bool := decide (x.forth ≠ []) || decide (x.back ≠ [])
def jLd (x : LensD) : Bool :=
  if x.kind = 2 ∨ x.kind = 3 then decide (x.at_ = ⟨0, [], []⟩) && decide (x.name = []) && decide (x.other = []) && decide (x.factor = 0) && !jGb x && jBk x.field
  else if jCl x.at_ = false ∨ ¬ x.field = jEm then false
  else if x.kind = 8 then decide (x.factor = 0) && tabB x.forth x.back && tabB x.back x.forth && (jD8 x.forth x.name).2 && (jD8 x.back x.other).2 && decide ((jD8 x.forth x.name).1 = x.other) && decide ((jD8 x.back x.other).1 = x.name)
  else if jGb x = true then false
  else if x.kind = 6 ∨ x.kind = 9 then jBB x.name && jBB x.other && decide (¬ x.name = x.other) && decide (1 < x.factor) && decide (x.factor < 1001)
  else if ¬ x.factor = 0 then false
  else if x.kind = 7 ∨ x.kind = 10 then decide (x.name = []) && decide (x.other.length < 41)
  else if ¬ x.other = [] then false
  else if x.kind = 1 then jBB x.name
  else if x.kind = 4 then decide (x.name = []) && decide (¬ x.at_.group = [])
  else decide (x.kind = 5) && decide (x.at_.group = []) && jBB x.name
theorem jIk {t u : List PairD} {s : jAU} (h : tabB t u = true) (hs : (jD8 t s).2 = true) : jBB s = true := by
  rw [jHW, List.contains_iff_mem, List.mem_map] at hs
  obtain ⟨p, hp, rfl⟩ := hs
  obtain ⟨i, hi, rfl⟩ := List.getElem_of_mem hp
  unfold tabB at h
  simp only [Bool.and_eq_true, List.all_eq_true, List.mem_range] at h
  have := h.2 i hi
  rw [jFh hi] at this
  simp only [Bool.and_eq_true] at this
  exact this.1.1
theorem jK2 (t : List PairD) (s u : jAU) : decide (jD8 t s = (u, true)) = ((jD8 t s).2 && decide ((jD8 t s).1 = u)) := by
  rcases jD8 t s with ⟨a, b⟩
  cases b <;> simp
theorem jK0 (x : LensD) : jLd x = jB2 x := by
  have ht := @jIk x.forth x.back x.name
  unfold jLd jB2 jAD jDo jHC
  rw [jK2, jK2]
  by_cases k1 : x.kind = 1
  · simp [k1, jCd, zL, jGb, jEm]; grind
  by_cases k2 : x.kind = 2
  · simp [k2, jCd, zL, jGb, jEm]; grind
  by_cases k3 : x.kind = 3
  · simp [k3, jCd, zL, jGb, jEm]; grind
  by_cases k4 : x.kind = 4
  · simp [k4, jCd, zL, jGb, jEm]; grind
  by_cases k5 : x.kind = 5
  · simp [k5, jCd, zL, jGb, jEm]; grind
  by_cases k6 : x.kind = 6
  · simp [k6, jCd, zL, jGb, jEm]; grind
  by_cases k7 : x.kind = 7
  · simp [k7, jCd, zL, jGb, jEm]; grind
  by_cases k8 : x.kind = 8
  · simp [k8, jCd, zL, jGb, jEm]; grind
  by_cases k9 : x.kind = 9
  · simp [k9, jCd, zL, jGb, jEm]; grind
  by_cases k10 : x.kind = 10
  · simp [k10, jCd, zL, jGb, jEm]; grind
  simp [k1, k2, k3, k4, k5, k6, k7, k8, k9, k10]
set_option maxRecDepth 100000
structure LensD.Small (x : LensD) : Prop where
  cases : x.field.cases.length ≤ 1000000
  forth : x.forth.length ≤ 1000000
  back : x.back.length ≤ 1000000
theorem jJK {x : LensD} (h : jB2 x = true) : 1 ≤ x.kind ∧ x.kind ≤ 10 := by
  have : (jAD x).2 = true := by
    unfold jB2 at h
    simp only [Bool.and_eq_true] at h
    exact h.1.1
  unfold jAD at this
  grind
section
variable {x : LensD} (hr : jB2 x = true)
include hr
end
def hpB (l : List PairD) : Bool := decide (20 < l.length) || l.any fun p => decide (200 < p.from_.length) || decide (200 < p.tQ.length)
theorem hpB_f {l : List PairD} (h : hpB l = false) : l.length ≤ 20 := by
  unfold hpB at h
  simp only [Bool.or_eq_false_iff, decide_eq_false_iff_not] at h
  omega
set_option maxRecDepth 100000
def scB : AV → Bool
  | .sc (.slice _ _ _) => false
  | .sc _ => true
  | .sl _ => true
  | _ => false
theorem set1_sc {st : List TK} {x : AV} (h : scB x = true) : set1 st x = some x := by
  cases x with
  | sc v => cases v <;> first | rfl | cases h
  | sl xs => rfl
  | _ => cases h
theorem jLL {st : List TK} : ∀ {zs : List AV}, zs.all scB = true → sets st zs = some zs
  | [], _ => rfl
  | x :: xs, h => by
    rw [List.all_cons, Bool.and_eq_true] at h
    unfold sets
    rw [set1_sc h.1, jLL h.2]
theorem jMi {st : List TK} {zs : List AV} (h : zs.all scB = true) : setA st (.ag zs) = some (.ag zs) := by
  show (match sets st zs with | some ys => some (AV.ag ys) | none => none) = some (AV.ag zs)
  rw [jLL h]
theorem jFs (x : LensD) : AC Tryz.prog 127 [x.av] (fun r => r = .s (AB (jGb x))) := rtabs_c x
theorem rnone_c (x : LensD) (h : x.Small) : AC Tryz.prog 129 [x.av] (fun r => r = .s (AB (decide (x.field = jEm)))) := by
  have h1 := h.cases
  change AC _ _ [.ag [AI x.kind, AI x.at_.scope, AS x.at_.group, AS x.at_.name, AS x.name, AS x.other, AI x.factor, AI x.field.at_.scope, AS x.field.at_.group, AS x.field.at_.name, AI x.field.kind, AS x.field.dflt, .sl (csS x.field.cases), AI x.field.worth, .sl (x.forth.map PairD.cs), .sl (x.back.map PairD.cs)]] _; refine AC.of' 6 1 Tryz.func129 rfl ?_; change AW _ _ _ _ [TK.mk 0 .off]; refine AW.g (AL.oq (AOpB.op (oB 0 ?_))); refine AL.n ?_; refine AL.ra ?_; refine AL.nil (AW.g (AL.r (qa jB6) ?_)); refine AL.r (qN jCq) ?_; refine AL.r (qB jG6 jFg) ?_; refine AL.oq (AOpB.op (jAb (jNg x.field jEm (by omega)) rfl (by kernel_rfl) rfl (none) ?_)); rintro r rfl; refine AL.n ?_; refine AL.ra ?_; refine AL.nil (AW.ret (r1t ?_)); rfl
theorem nl4 {a b : Bool} (h : a = b := by rw [Bool.eq_iff_iff]; simp_all [jCd, jDF] <;> (intros; simp_all)) : RS.s (AB a) = RS.s (AB b) := sb h
theorem rlsame_c (a b : LensD) (h : a.Small) : AC Tryz.prog 134 [a.av, b.av] (fun r => r = .s (AB (decide (a = b)))) := by
  have h1 := h.cases
  change AC _ _ [.ag [AI a.kind, AI a.at_.scope, AS a.at_.group, AS a.at_.name, AS a.name, AS a.other, AI a.factor, AI a.field.at_.scope, AS a.field.at_.group, AS a.field.at_.name, AI a.field.kind, AS a.field.dflt, .sl (csS a.field.cases), AI a.field.worth, .sl (a.forth.map PairD.cs), .sl (a.back.map PairD.cs)], .ag [AI b.kind, AI b.at_.scope, AS b.at_.group, AS b.at_.name, AS b.name, AS b.other, AI b.factor, AI b.field.at_.scope, AS b.field.at_.group, AS b.field.at_.name, AI b.field.kind, AS b.field.dflt, .sl (csS b.field.cases), AI b.field.worth, .sl (b.forth.map PairD.cs), .sl (b.back.map PairD.cs)]] _; refine AC.of' 57 2 Tryz.func134 rfl ?_; change AW _ _ _ _ [TK.mk 0 .off, TK.mk 0 .off]; refine AW.g (AL.oq (AOpB.op (oB 0 ?_))); refine AL.n ?_; refine AL.oq (AOpB.op (oB 1 ?_)); refine AL.n ?_; refine AL.ra ?_; refine AL.nil (AW.g ?_); (iterate 2 (refine AL.r (qa jBf) ?_; refine AL.r (ql ag_3) ?_)); refine AL.r qb ?_; refine AL.rm ?_; refine AL.fk (d := 10) rfl (fun h10 => ?_) (fun h10 => ?_)
  ·refine AL.n ?_; (iterate 2 (refine AL.ro (qa jAh) ?_; refine AL.ro (qN jBa) ?_)); refine AL.ro (jCW rfl rfl rfl) ?_; refine AL.r qt ?_; refine AL.rm ?_; refine AL.fk (d := 17) rfl (fun h17 => ?_) (fun h17 => ?_)
   ·refine AL.n ?_; (iterate 2 (refine AL.ro (qa jAt) ?_; refine AL.ro (ql ag_9) ?_)); refine AL.ro (jBi rfl rfl rfl) ?_; refine AL.r qt ?_; refine AL.rm ?_; refine AL.fk (d := 24) rfl (fun h24 => ?_) (fun h24 => ?_)
    ·refine AL.n ?_; (iterate 2 (refine AL.ro (qa jAg) ?_; refine AL.ro (ql ag_9) ?_)); refine AL.ro (jBi rfl rfl rfl) ?_; refine AL.r qt ?_; refine AL.rm ?_; refine AL.fk (d := 31) rfl (fun h31 => ?_) (fun h31 => ?_)
     ·refine AL.n ?_; (iterate 2 (refine AL.ro (qa jBm) ?_; refine AL.ro (ql ag_2) ?_)); refine AL.ro qb ?_; refine AL.r qt ?_; refine AL.rm ?_; refine AL.fk (d := 38) rfl (fun h38 => ?_) (fun h38 => ?_)
      ·refine AL.n ?_; (iterate 2 (refine AL.ro (qa jB6) ?_; refine AL.ro (qN jCq) ?_)); refine AL.on rfl rfl rfl (AOpB.op (jAb (jNg a.field b.field (by omega)) rfl (by kernel_rfl) rfl (none) ?_)); rintro r rfl; refine AL.n ?_; refine AL.r qt ?_; refine AL.rm ?_; refine AL.fk (d := 45) rfl (fun h45 => ?_) (fun h45 => ?_)
       ·refine AL.n ?_; (iterate 2 (refine AL.ro (qa jAS) ?_; refine AL.ro (ql jBG) ?_)); refine AL.on rfl rfl rfl (AOpB.op (jAb (jIs a.forth b.forth) rfl (by kernel_rfl) rfl (none) ?_)); rintro r rfl; refine AL.n ?_; refine AL.r qt ?_; refine AL.rm ?_; refine AL.fk (d := 52) rfl (fun h52 => ?_) (fun h52 => ?_)
        ·refine AL.n ?_; (iterate 2 (refine AL.ro (qa jAT) ?_; refine AL.ro (ql jBG) ?_)); refine AL.on rfl rfl rfl (AOpB.op (jAb (jIs a.back b.back) rfl (by kernel_rfl) rfl (none) ?_)); rintro r rfl; refine AL.n ?_; refine AL.r qt ?_; refine AL.ra ?_; refine AL.nil (AW.ret (r1t ?_)); exact nl4
        refine AL.n ?_; (iterate 5 refine AL.rf ?_); refine AL.r qf ?_; refine AL.ra ?_; refine AL.nil (AW.ret (r1t ?_)); exact nl4
       refine AL.n ?_; (iterate 5 refine AL.rf ?_); refine AL.r qf ?_; refine AL.rm ?_; (iterate 5 refine AL.rf ?_); refine AL.r qf ?_; refine AL.ra ?_; refine AL.nil (AW.ret (r1t ?_)); exact nl4
      refine AL.n ?_; (iterate 2 ((iterate 5 refine AL.rf ?_); refine AL.r qf ?_; refine AL.rm ?_)); (iterate 5 refine AL.rf ?_); refine AL.r qf ?_; refine AL.ra ?_; refine AL.nil (AW.ret (r1t ?_)); exact nl4
     refine AL.n ?_; (iterate 3 ((iterate 5 refine AL.rf ?_); refine AL.r qf ?_; refine AL.rm ?_)); (iterate 5 refine AL.rf ?_); refine AL.r qf ?_; refine AL.ra ?_; refine AL.nil (AW.ret (r1t ?_)); exact nl4
    refine AL.n ?_; (iterate 4 ((iterate 5 refine AL.rf ?_); refine AL.r qf ?_; refine AL.rm ?_)); (iterate 5 refine AL.rf ?_); refine AL.r qf ?_; refine AL.ra ?_; refine AL.nil (AW.ret (r1t ?_)); exact nl4
   refine AL.n ?_; (iterate 5 ((iterate 5 refine AL.rf ?_); refine AL.r qf ?_; refine AL.rm ?_)); (iterate 5 refine AL.rf ?_); refine AL.r qf ?_; refine AL.ra ?_; refine AL.nil (AW.ret (r1t ?_)); exact nl4
  refine AL.n ?_; (iterate 6 ((iterate 5 refine AL.rf ?_); refine AL.r qf ?_; refine AL.rm ?_)); (iterate 2 refine AL.rf ?_)
  (iterate 3 refine AL.rf ?_); refine AL.r qf ?_; refine AL.ra ?_; refine AL.nil (AW.ret (r1t ?_))
  exact nl4
end Go.Proofs.YtlapcfnmmpbeeaaGreat
