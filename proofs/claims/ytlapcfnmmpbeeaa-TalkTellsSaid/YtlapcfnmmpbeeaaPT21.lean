/- A part of a proof. -/
import Derived.Deep.DeepCutAuto
import Derived.Laws.BytesString
import Derived.Test.YtlapcfnmmpbeeaaPT18
import Derived.Test.YtlapcfnmmpbeeaaPT20
set_option linter.unusedSimpArgs false
set_option linter.unusedVariables false
namespace Go.Proofs.Ytlapcfnmmpbeeaa
set_option maxRecDepth 100000
open Go.RowKit
def zeroFL : FldD := ⟨⟨0, [], []⟩, 0, [], [], 0⟩
def tabsL (x : LensD) : Bool := decide (x.forth ≠ []) || decide (x.back ≠ [])
def rightV (x : LensD) : Bool :=
  if x.kind = 2 ∨ x.kind = 3 then decide (x.at_ = ⟨0, [], []⟩) && decide (x.name = []) && decide (x.other = []) && decide (x.factor = 0) && !tabsL x && rightF x.field
  else if placeB x.at_ = false ∨ ¬ x.field = zeroFL then false
  else if x.kind = 8 then decide (x.factor = 0) && tabB x.forth x.back && tabB x.back x.forth && (caseP x.forth x.name).2 && (caseP x.back x.other).2 && decide ((caseP x.forth x.name).1 = x.other) && decide ((caseP x.back x.other).1 = x.name)
  else if tabsL x = true then false
  else if x.kind = 6 ∨ x.kind = 9 then nameB x.name && nameB x.other && decide (¬ x.name = x.other) && decide (1 < x.factor) && decide (x.factor < 1001)
  else if ¬ x.factor = 0 then false
  else if x.kind = 7 ∨ x.kind = 10 then decide (x.name = []) && decide (x.other.length < 41)
  else if ¬ x.other = [] then false
  else if x.kind = 1 then nameB x.name
  else if x.kind = 4 then decide (x.name = []) && decide (¬ x.at_.group = [])
  else decide (x.kind = 5) && decide (x.at_.group = []) && nameB x.name
theorem tab_name {t u : List PairD} {s : Bytes} (h : tabB t u = true) (hs : (caseP t s).2 = true) : nameB s = true := by
  rw [caseP_ok, List.contains_iff_mem, List.mem_map] at hs
  obtain ⟨p, hp, rfl⟩ := hs
  obtain ⟨i, hi, rfl⟩ := List.getElem_of_mem hp
  unfold tabB at h
  simp only [Bool.and_eq_true, List.all_eq_true, List.mem_range] at h
  have := h.2 i hi
  rw [okT_at hi] at this
  simp only [Bool.and_eq_true] at this
  exact this.1.1
theorem caseP_eq (t : List PairD) (s u : Bytes) : decide (caseP t s = (u, true)) = ((caseP t s).2 && decide ((caseP t s).1 = u)) := by
  rcases caseP t s with ⟨a, b⟩
  cases b <;> simp
theorem right_eq (x : LensD) : rightV x = rightL x := by
  have ht := @tab_name x.forth x.back x.name
  unfold rightV rightL partsL kindL tablesB
  rw [caseP_eq, caseP_eq]
  by_cases k1 : x.kind = 1
  · simp [k1, lensD_iff, zL, tabsL, zeroFL]; grind
  by_cases k2 : x.kind = 2
  · simp [k2, lensD_iff, zL, tabsL, zeroFL]; grind
  by_cases k3 : x.kind = 3
  · simp [k3, lensD_iff, zL, tabsL, zeroFL]; grind
  by_cases k4 : x.kind = 4
  · simp [k4, lensD_iff, zL, tabsL, zeroFL]; grind
  by_cases k5 : x.kind = 5
  · simp [k5, lensD_iff, zL, tabsL, zeroFL]; grind
  by_cases k6 : x.kind = 6
  · simp [k6, lensD_iff, zL, tabsL, zeroFL]; grind
  by_cases k7 : x.kind = 7
  · simp [k7, lensD_iff, zL, tabsL, zeroFL]; grind
  by_cases k8 : x.kind = 8
  · simp [k8, lensD_iff, zL, tabsL, zeroFL]; grind
  by_cases k9 : x.kind = 9
  · simp [k9, lensD_iff, zL, tabsL, zeroFL]; grind
  by_cases k10 : x.kind = 10
  · simp [k10, lensD_iff, zL, tabsL, zeroFL]; grind
  simp [k1, k2, k3, k4, k5, k6, k7, k8, k9, k10]
set_option maxRecDepth 100000
section
variable {x : LensD} (hr : rightL x = true)
include hr
end
def hpB (l : List PairD) : Bool := decide (20 < l.length) || l.any fun p => decide (200 < p.from_.length) || decide (200 < p.tQ.length)
def heavyL (x : LensD) : Bool := decide (200 < x.at_.group.length) || decide (200 < x.at_.name.length) || decide (200 < x.name.length) || decide (200 < x.other.length) || heavyF x.field || hpB x.forth || hpB x.back
theorem hpB_f {l : List PairD} (h : hpB l = false) : l.length ≤ 20 := by
  unfold hpB at h
  simp only [Bool.or_eq_false_iff, decide_eq_false_iff_not] at h
  omega
set_option maxRecDepth 100000
def scB : AV → Bool
  | .sc (.slice _ _ _) => false
  | .sc _ => true
  | .sl _ => true
  | _ => false
theorem set1_sc {st : List TK} {x : AV} (h : scB x = true) : set1 st x = some x := by
  cases x with
  | sc v => cases v <;> first | rfl | cases h
  | sl xs => rfl
  | _ => cases h
theorem sets_sc {st : List TK} : ∀ {zs : List AV}, zs.all scB = true → sets st zs = some zs
  | [], _ => rfl
  | x :: xs, h => by
    rw [List.all_cons, Bool.and_eq_true] at h
    unfold sets
    rw [set1_sc h.1, sets_sc h.2]
theorem setA_sc {st : List TK} {zs : List AV} (h : zs.all scB = true) : setA st (.ag zs) = some (.ag zs) := by
  show (match sets st zs with | some ys => some (AV.ag ys) | none => none) = some (AV.ag zs)
  rw [sets_sc h]
theorem rheavyp_c (l : List PairD) : AC Try.prog 62 [.sl (l.map PairD.cs)] (fun r => r = .s (AB (hpB l))) := by
  refine AC.of' 28 0 Try.func62 rfl ?_; change AW _ _ _ _ []; refine AW.g (AL.ra ?_); refine AL.nil (AW.seq (AW.g (AL.rm ?_))); refine AL.r (lN el_59) ?_; refine AL.r qb ?_; refine AL.nil (AW.cd rfl (fun h6 => ?_) (fun h6 => ?_))
  ·refine AW.g (AL.ra ?_); refine AL.nil (AW.ret (r1t ?_))
   (refine sb ?_; unfold hpB; rw [decide_eq_true (by omega)]; rfl)
  refine AW.skip (AW.seq (AW.g (AL.ra ?_))); refine AL.nil (AW.block (AW.loopM (ι := Nat) [2, 7, 8, 9, 10, 11, 12, 13, 14, 15, 16, 17, 18, 19, 20, 21, 22, 23, 24, 25, 26, 27, 28] (fun k => [(3, AI (k : Int))]) [] (fun k => []) (fun k => k ≤ l.length ∧ ∀ i (hi : i < l.length), i < k → (decide (200 < l[i].from_.length) || decide (200 < l[i].tQ.length)) = false) (fun k => l.length - k) 0 (⟨by omega, fun i _ hi => absurd hi (by omega)⟩) wk sk ?_)); rintro k gs hJ; refine AW.nm ?_; obtain ⟨hk, hok⟩ := hJ; refine AW.seq (AW.g ?_); (iterate 2 refine AL.rm ?_); refine AL.r (lN el_59) ?_; refine AL.r qb ?_; refine AL.nil (AW.cd rfl (fun h10 => ?_) (fun h10 => ?_))
  ·refine AW.skip (AW.seq (AW.block (AW.g ?_))); (iterate 2 refine AL.rm ?_); refine AL.r (rd_iaddr_sl rfl el_59 rfl rfl rfl (get_mapA (by omega)) rfl) ?_; refine AL.r (rd_faddr_ep rfl fo_127_0 rfl) ?_; refine AL.r (rd_load_ep rfl ag_9 rfl rfl) ?_; refine AL.r (rd_len_str rfl str_9 rfl) ?_; refine AL.r qb ?_; refine AL.rm ?_; refine AL.fk (d := 20) rfl (fun h20 => ?_) (fun h20 => ?_)
   ·refine AL.n ?_; (iterate 7 refine AL.rf ?_); refine AL.r qt ?_; refine AL.nil (AW.cond_t rfl (AW.g (AL.ra ?_))); refine AL.nil (AW.ret (r1t ?_))
    (refine sb ?_; unfold hpB; rw [List.any_eq_true.2 ⟨l[k], List.getElem_mem (by omega), by simp_all <;> omega⟩, Bool.or_true])
   refine AL.n ?_; refine AL.ro (rd_move rfl rfl) ?_; refine AL.ro (rd_move rfl rfl) ?_; refine AL.ro (rd_iaddr_sl rfl el_59 rfl rfl rfl (get_mapA (by omega)) rfl) ?_; refine AL.ro (rd_faddr_ep rfl fo_127_1 rfl) ?_; refine AL.ro (rd_load_ep rfl ag_9 rfl rfl) ?_; refine AL.ro (rd_len_str rfl str_9 rfl) ?_; refine AL.ro qb ?_; refine AL.r qf ?_; refine AL.nil (AW.cd rfl (fun h28 => ?_) (fun h28 => ?_))
   ·refine AW.g (AL.ra ?_); refine AL.nil (AW.ret (r1t ?_))
    (refine sb ?_; unfold hpB; rw [List.any_eq_true.2 ⟨l[k], List.getElem_mem (by omega), by simp_all <;> omega⟩, Bool.or_true])
   refine AW.skip ?_; change AW _ _ _ _ _; refine AW.region ?_; refine AL.rm ?_; refine AL.r qA ?_; refine AL.ra ?_; refine AL.nil ?_; refine ⟨k + 1, ?_, by first | omega | (simp only []; omega), ?_, ?_⟩
   ·exact ⟨by omega, all_nextL (p := fun (y : PairD) => (decide (200 < y.from_.length) || decide (200 < y.tQ.length)) = false) (by omega) hok (by simp_all <;> omega)⟩
   ·exact wk
   exact sk
  refine AW.exit ?_; change AW _ _ _ _ _; refine AW.g (AL.ra ?_); refine AL.nil (AW.ret (r1t ?_))
  (refine sb ?_; unfold hpB; rw [decide_eq_false (by omega), any_f (fun i hi => hok i hi (by omega))]; rfl)
theorem nl6 {a b : Bool} (h : a = b := by simp_all [heavyL] <;> first | omega | grind) : RS.s (AB a) = RS.s (AB b) := sb h
theorem rheavyl_c (x : LensD) : AC Try.prog 34 [x.av] (fun r => r = .s (AB (heavyL x))) := by
  change AC _ _ [.ag [AI x.kind, AI x.at_.scope, AS x.at_.group, AS x.at_.name, AS x.name, AS x.other, AI x.factor, AI x.field.at_.scope, AS x.field.at_.group, AS x.field.at_.name, AI x.field.kind, AS x.field.dflt, .sl (csS x.field.cases), AI x.field.worth, .sl (x.forth.map PairD.cs), .sl (x.back.map PairD.cs)]] _; refine AC.of' 41 1 Try.func34 rfl ?_; change AW _ _ _ _ [TK.mk 0 .off]; refine AW.g (AL.oq (AOpB.op (oB 0 ?_))); refine AL.n ?_; refine AL.ra ?_; refine AL.nil (AW.g (AL.r (qa fo_61_1) ?_)); refine AL.r (qa fo_55_1) ?_; refine AL.r (ql ag_9) ?_; refine AL.r (rd_len_str rfl str_9 rfl) ?_; refine AL.r qb ?_; refine AL.rm ?_; refine AL.fk (d := 8) rfl (fun h8 => ?_) (fun h8 => ?_)
  ·refine AL.n ?_; (iterate 5 refine AL.rf ?_); (iterate 2 (refine AL.r qt ?_; refine AL.rm ?_; (iterate 4 refine AL.rf ?_))); (iterate 3 (refine AL.r qt ?_; refine AL.rm ?_; (iterate 3 refine AL.rf ?_))); refine AL.r qt ?_; refine AL.ra ?_; refine AL.nil (AW.ret (r1t ?_)); exact nl6
  refine AL.n ?_; refine AL.ro (qa fo_61_1) ?_; refine AL.ro (qa fo_55_2) ?_; refine AL.ro (ql ag_9) ?_; refine AL.ro (rd_len_str rfl str_9 rfl) ?_; refine AL.ro qb ?_; refine AL.r qf ?_; refine AL.rm ?_; refine AL.fk (d := 15) rfl (fun h15 => ?_) (fun h15 => ?_)
  ·refine AL.n ?_; (iterate 2 ((iterate 4 refine AL.rf ?_); refine AL.r qt ?_; refine AL.rm ?_)); (iterate 2 ((iterate 3 refine AL.rf ?_); refine AL.r qt ?_; refine AL.rm ?_)); (iterate 3 refine AL.rf ?_); refine AL.r qt ?_; refine AL.ra ?_; refine AL.nil (AW.ret (r1t ?_)); exact nl6
  refine AL.n ?_; refine AL.ro (qa fo_61_2) ?_; refine AL.ro (ql ag_9) ?_; refine AL.ro (rd_len_str rfl str_9 rfl) ?_; refine AL.ro qb ?_; refine AL.r qf ?_; refine AL.rm ?_; refine AL.fk (d := 21) rfl (fun h21 => ?_) (fun h21 => ?_)
  ·refine AL.n ?_; (iterate 4 refine AL.rf ?_); (iterate 3 (refine AL.r qt ?_; refine AL.rm ?_; (iterate 3 refine AL.rf ?_))); refine AL.r qt ?_; refine AL.ra ?_; refine AL.nil (AW.ret (r1t ?_)); exact nl6
  refine AL.n ?_; refine AL.ro (qa fo_61_3) ?_; refine AL.ro (ql ag_9) ?_; refine AL.ro (rd_len_str rfl str_9 rfl) ?_; refine AL.ro qb ?_; refine AL.r qf ?_; refine AL.rm ?_; refine AL.fk (d := 27) rfl (fun h27 => ?_) (fun h27 => ?_)
  ·refine AL.n ?_; (iterate 2 ((iterate 3 refine AL.rf ?_); refine AL.r qt ?_; refine AL.rm ?_)); (iterate 3 refine AL.rf ?_); refine AL.r qt ?_; refine AL.ra ?_; refine AL.nil (AW.ret (r1t ?_)); exact nl6
  refine AL.n ?_; refine AL.ro (qa fo_61_5) ?_; refine AL.ro (qN ag_58) ?_; refine AL.on rfl rfl rfl (AOpB.op (op_call (rheavy_c x.field) rfl (by kernel_rfl) rfl (none) ?_)); rintro r rfl; refine AL.n ?_; refine AL.r qf ?_; refine AL.rm ?_; refine AL.fk (d := 32) rfl (fun h32 => ?_) (fun h32 => ?_)
  ·refine AL.n ?_; (iterate 3 refine AL.rf ?_); refine AL.r qt ?_; refine AL.rm ?_; (iterate 3 refine AL.rf ?_); refine AL.r qt ?_; refine AL.ra ?_; refine AL.nil (AW.ret (r1t ?_)); exact nl6
  refine AL.n ?_; refine AL.ro (qa fo_61_6) ?_; refine AL.ro (ql ag_59) ?_; refine AL.on rfl rfl rfl (AOpB.op (op_call (rheavyp_c x.forth) rfl (by kernel_rfl) rfl (none) ?_)); rintro r rfl; refine AL.n ?_; refine AL.r qf ?_; refine AL.rm ?_; refine AL.fk (d := 37) rfl (fun h37 => ?_) (fun h37 => ?_)
  ·refine AL.n ?_; (iterate 3 refine AL.rf ?_); refine AL.r qt ?_; refine AL.ra ?_; refine AL.nil (AW.ret (r1t ?_)); exact nl6
  refine AL.n ?_; refine AL.ro (qa fo_61_7) ?_; refine AL.ro (ql ag_59) ?_; refine AL.on rfl rfl rfl (AOpB.op (op_call (rheavyp_c x.back) rfl (by kernel_rfl) rfl (none) ?_)); rintro r rfl; refine AL.n ?_; refine AL.r qf ?_; refine AL.ra ?_; refine AL.nil (AW.ret (r1t ?_)); exact nl6
set_option maxRecDepth 100000
theorem p1 : putN 1 300 = [44, 1, 0, 0, 0, 0, 0, 0] := by decide +kernel
theorem p2 : putN 2 300 = [216, 4] := by decide +kernel
theorem p3 : putN 2 (-1) = [1] := by decide +kernel
end Go.Proofs.Ytlapcfnmmpbeeaa
