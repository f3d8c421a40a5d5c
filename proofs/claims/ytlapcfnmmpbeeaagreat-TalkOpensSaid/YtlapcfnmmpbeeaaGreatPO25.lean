/- A part of a proof. -/
import Derived.Test.YtlapcfnmmpbeeaaGreatPO24
set_option linter.unusedSimpArgs false
set_option linter.unusedVariables false
namespace Go.Proofs.YtlapcfnmmpbeeaaGreat
set_option maxRecDepth 100000
open Go.RowKit
def okT (t u : List PairD) (i : Nat) : Bool := match t[i]? with
  | some p => jBB p.from_ && !((t.take i).map PairD.from_).contains p.from_ && (u.map PairD.from_).contains p.tQ
  | none => true
def tabB (t u : List PairD) : Bool := decide (1 ≤ t.length) && decide (t.length ≤ 6) && (List.range t.length).all (okT t u)
theorem jFh {t u : List PairD} {k : Nat} (h : k < t.length) : okT t u k = (jBB t[k].from_ && !((t.take k).map PairD.from_).contains t[k].from_ && (u.map PairD.from_).contains t[k].tQ) := by simp [okT, h]
theorem jGo {t u : List PairD} (h : t.length < 1 ∨ 6 < t.length) : tabB t u = false := by
  unfold tabB
  rcases h with h | h
  · rw [decide_eq_false (by omega)]; rfl
  rw [decide_eq_false (p := t.length ≤ 6) (by omega), Bool.and_false]; rfl
theorem tabB_t {t u : List PairD} (h1 : ¬ t.length < 1) (h2 : ¬ 6 < t.length) (h : ∀ i, i < t.length → okT t u i = true) : tabB t u = true := by
  unfold tabB
  rw [decide_eq_true (by omega), decide_eq_true (by omega), List.all_eq_true.2 fun i hi => h i (List.mem_range.1 hi)]; rfl
theorem jHo {t u : List PairD} {k : Nat} (hk : k < t.length) (h : okT t u k = false) : tabB t u = false := by
  unfold tabB
  have : (List.range t.length).all (okT t u) = false := by
    rw [List.all_eq_false]; exact ⟨k, List.mem_range.2 hk, by rw [h]; decide⟩
  rw [this, Bool.and_false]
theorem jHW (t : List PairD) (s : jAU) : (jD8 t s).2 = (t.map PairD.from_).contains s := by
  unfold jD8
  cases h : t.find? (fun p => decide (p.from_ = s)) with
  | none =>
    have := List.find?_eq_none.1 h
    symm
    rw [Bool.eq_false_iff]
    intro hc; rw [List.contains_iff_mem, List.mem_map] at hc; obtain ⟨p, hp, e⟩ := hc; exact this p hp (by simpa using e)
  | some p =>
    have h1 := List.find?_some h
    have h2 := List.mem_of_find?_eq_some h
    symm
    rw [List.contains_iff_mem, List.mem_map]
    exact ⟨p, h2, by simpa using h1⟩
theorem jMl (t u : List PairD) (hu : u.length ≤ 1000000) : AC Tryz.prog 131 [.sl (t.map PairD.cs), .sl (u.map PairD.cs)] (fun x => x = .s (AB (tabB t u))) := by
  refine AC.of' 48 0 Tryz.func131 rfl ?_; change AW _ _ _ _ []; refine AW.g (AL.ra ?_); refine AL.nil (AW.seq (AW.g (AL.rm ?_))); refine AL.r (lN jCu) ?_; refine AL.r qb ?_; refine AL.rm ?_; refine AL.fk (d := 9) rfl (fun h9 => ?_) (fun h9 => ?_)
  ·refine AL.n ?_; (iterate 3 refine AL.rf ?_); refine AL.r qt ?_; refine AL.nil (AW.cond_t rfl (AW.g (AL.ra ?_))); refine AL.nil (AW.ret (r1t ?_)); rw [jGo (by omega)]
  refine AL.n ?_; refine AL.ro (jAa rfl rfl) ?_; refine AL.ro (lN jCu) ?_; refine AL.ro qb ?_; refine AL.r qf ?_; refine AL.nil (AW.cd rfl (fun h13 => ?_) (fun h13 => ?_))
  ·refine AW.g (AL.ra ?_); refine AL.nil (AW.ret (r1t ?_)); rw [jGo (by omega)]
  refine AW.skip (AW.seq (AW.g (AL.ra ?_))); refine AL.nil (AW.block (AW.loopM (ι := Nat) [4, 14, 15, 16, 17, 18, 19, 20, 21, 22, 23, 24, 25, 26, 27, 28, 29, 30, 31, 32, 33, 34, 35, 36, 37, 38, 39, 40, 41, 42, 43, 44, 45, 46, 47, 48, 49] (fun k => [(5, AI (k : Int))]) [] (fun k => []) (fun k => k ≤ t.length ∧ ∀ i, i < k → okT t u i = true) (fun k => t.length - k) 0 (⟨by omega, fun i hi => absurd hi (by omega)⟩) wk sk ?_)); rintro k gs hJ; refine AW.nm ?_; obtain ⟨hk, hok⟩ := hJ; refine AW.seq (AW.g ?_); (iterate 2 refine AL.rm ?_); refine AL.r (lN jCu) ?_; refine AL.r qb ?_; refine AL.nil (AW.cd rfl (fun h17 => ?_) (fun h17 => ?_))
  ·refine AW.skip (AW.seq (AW.block (AW.seq (AW.draw (by kernel_rfl) ?_)))); refine AD.r 0 rfl (jAa rfl rfl) rfl ?_; refine AD.r 1 rfl (jAa rfl rfl) rfl ?_; refine AD.r 2 rfl (jAc rfl jCu rfl rfl rfl (jAy (by omega)) rfl) rfl ?_; refine AD.r 3 rfl (jCQ rfl jFC rfl) rfl ?_; refine AD.r 4 rfl (jAl rfl ag_9 rfl rfl) rfl ?_; refine AD.move 5 rfl (by kernel_rfl) rfl (jAb (jCP _) rfl (by kernel_rfl) rfl (none) ?_); rintro r rfl; refine AD.n ?_; refine AD.r 6 rfl qu rfl ?_; refine AD.r 7 rfl (jAa rfl rfl) rfl ?_; refine AD.fk (d := 27) rfl (fun h27 => ?_) (fun h27 => ?_)
   ·refine AD.n ?_; refine AD.s 8 rfl ⟨_, _, rfl, rfl, rfl⟩ ?_; refine AD.s 9 rfl ⟨_, _, rfl, rfl, rfl⟩ ?_; refine AD.s 10 rfl ⟨_, _, rfl, rfl, rfl⟩ ?_; refine AD.s 11 rfl ⟨_, _, rfl, rfl, rfl⟩ ?_; refine AD.s 12 rfl ⟨_, _, rfl, rfl, rfl⟩ ?_; refine AD.s 13 rfl ⟨_, _, rfl, rfl, rfl⟩ ?_; refine AD.s 14 rfl ⟨_, _, rfl, rfl, rfl⟩ ?_; refine AD.s 15 rfl ⟨_, _, rfl, rfl, rfl⟩ ?_; refine AD.s 16 rfl ⟨_, _, rfl, rfl, rfl⟩ ?_; refine AD.s 17 rfl ⟨_, _, rfl, rfl, rfl⟩ ?_; refine AD.r 18 rfl (jAm rfl rfl rfl) rfl ?_; refine AD.r 19 rfl (jAa rfl rfl) rfl ?_; refine AD.s 20 rfl ⟨_, _, rfl, rfl, rfl⟩ ?_; refine AD.s 21 rfl ⟨_, _, rfl, rfl, rfl⟩ ?_; refine AD.s 22 rfl ⟨_, _, rfl, rfl, rfl⟩ ?_; refine AD.s 23 rfl ⟨_, _, rfl, rfl, rfl⟩ ?_; refine AD.s 24 rfl ⟨_, _, rfl, rfl, rfl⟩ ?_; refine AD.s 25 rfl ⟨_, _, rfl, rfl, rfl⟩ ?_; refine AD.s 26 rfl ⟨_, _, rfl, rfl, rfl⟩ ?_; refine AD.s 27 rfl ⟨_, _, rfl, rfl, rfl⟩ ?_
    refine AD.s 28 rfl ⟨_, _, rfl, rfl, rfl⟩ ?_; refine AD.r 29 rfl (jAm rfl rfl rfl) rfl ?_; refine AD.done (by kernel_rfl) ?_; change AW _ _ _ _ _; refine AW.cond_t rfl (AW.g (AL.ra ?_)); refine AL.nil (AW.ret (r1t ?_)); rw [jHo (k := k) (by omega) (by rw [jFh (by omega)]; simp_all)]
   refine AD.n ?_; refine AD.r 8 rfl (jAa rfl rfl) ⟨_, _, rfl, rfl, rfl⟩ ?_; refine AD.r 9 rfl (jAa rfl rfl) ⟨_, _, rfl, rfl, rfl⟩ ?_; refine AD.r 10 rfl (jB8 rfl jCu rfl (by first | exact jHA | exact jDf | (intro cs hcs; obtain rfl := List.mem_singleton.1 hcs; rfl) | (intro cs hcs; obtain ⟨_, _, rfl⟩ := List.mem_map.1 hcs; rfl)) rfl ⟨_, _, rfl, rfl⟩ (by omega) (by simp only [jAQ, jAd, List.length_map]; omega)) ⟨_, _, rfl, rfl, rfl⟩ ?_; refine AD.r 12 rfl (jAa rfl rfl) ⟨_, _, rfl, rfl, rfl⟩ ?_; refine AD.r 13 rfl (jAa rfl rfl) ⟨_, _, rfl, rfl, rfl⟩ ?_; refine AD.r 14 rfl (jAc rfl jCu rfl rfl rfl (jAy (by omega)) rfl) ⟨_, _, rfl, rfl, rfl⟩ ?_; refine AD.r 15 rfl (jCQ rfl jFC rfl) ⟨_, _, rfl, rfl, rfl⟩ ?_; refine AD.r 16 rfl (jAl rfl ag_9 rfl rfl) ⟨_, _, rfl, rfl, rfl⟩ ?_; refine AD.move 11 rfl (by kernel_rfl) ⟨_, _, rfl, rfl, rfl⟩ (jAb (jMR (t.take k) (by rw [List.length_take]; omega)) rfl (by kernel_rfl) rfl (none) ?_)
   rintro r rfl; refine AD.n ?_; refine AD.move 17 rfl (by kernel_rfl) ⟨_, _, rfl, rfl, rfl⟩ (jAb (has_c _ _ (by simp; omega)) rfl (by kernel_rfl) rfl (none) ?_); rintro r rfl; refine AD.n ?_; refine AD.r 18 rfl (jAs rfl rfl rfl) rfl ?_; refine AD.r 19 rfl (jAa rfl rfl) rfl ?_; refine AD.fk (d := 39) rfl (fun h39 => ?_) (fun h39 => ?_)
   ·refine AD.n ?_; refine AD.s 20 rfl ⟨_, _, rfl, rfl, rfl⟩ ?_; refine AD.s 21 rfl ⟨_, _, rfl, rfl, rfl⟩ ?_; refine AD.s 22 rfl ⟨_, _, rfl, rfl, rfl⟩ ?_; refine AD.s 23 rfl ⟨_, _, rfl, rfl, rfl⟩ ?_; refine AD.s 24 rfl ⟨_, _, rfl, rfl, rfl⟩ ?_; refine AD.s 25 rfl ⟨_, _, rfl, rfl, rfl⟩ ?_; refine AD.s 26 rfl ⟨_, _, rfl, rfl, rfl⟩ ?_; refine AD.s 27 rfl ⟨_, _, rfl, rfl, rfl⟩ ?_; refine AD.s 28 rfl ⟨_, _, rfl, rfl, rfl⟩ ?_; refine AD.r 29 rfl (jAm rfl rfl rfl) rfl ?_; refine AD.done (by kernel_rfl) ?_; change AW _ _ _ _ _; refine AW.cond_t rfl (AW.g (AL.ra ?_)); refine AL.nil (AW.ret (r1t ?_)); rw [jHo (k := k) (by omega) (by rw [jFh (by omega)]; simp_all)]
   refine AD.n ?_; refine AD.r 20 rfl (jAa rfl rfl) ⟨_, _, rfl, rfl, rfl⟩ ?_; refine AD.r 22 rfl (jAa rfl rfl) ⟨_, _, rfl, rfl, rfl⟩ ?_; refine AD.r 23 rfl (jAa rfl rfl) ⟨_, _, rfl, rfl, rfl⟩ ?_; refine AD.r 24 rfl (jAc rfl jCu rfl rfl rfl (jAy (by omega)) rfl) ⟨_, _, rfl, rfl, rfl⟩ ?_; refine AD.r 25 rfl (jCQ rfl jIj rfl) ⟨_, _, rfl, rfl, rfl⟩ ?_; refine AD.r 26 rfl (jAl rfl ag_9 rfl rfl) ⟨_, _, rfl, rfl, rfl⟩ ?_; refine AD.move 21 rfl (by kernel_rfl) ⟨_, _, rfl, rfl, rfl⟩ (jAb (jMR u hu) rfl (by kernel_rfl) rfl (none) ?_); rintro r rfl; refine AD.n ?_; refine AD.move 27 rfl (by kernel_rfl) ⟨_, _, rfl, rfl, rfl⟩ (jAb (has_c _ _ (by simp; omega)) rfl (by kernel_rfl) rfl (none) ?_); rintro r rfl; refine AD.n ?_; refine AD.r 28 rfl qu ⟨_, _, rfl, rfl, rfl⟩ ?_; refine AD.r 29 rfl (jAs rfl rfl rfl) rfl ?_; refine AD.done (by kernel_rfl) ?_; change AW _ _ _ _ _; refine AW.cd rfl (fun h49 => ?_) (fun h49 => ?_)
   ·refine AW.g (AL.ra ?_); refine AL.nil (AW.ret (r1t ?_)); rw [jHo (k := k) (by omega) (by rw [jFh (by omega)]; simp_all)]
   refine AW.skip ?_; change AW _ _ _ _ _; refine AW.region ?_; refine AL.rm ?_; refine AL.r qA ?_; refine AL.ra ?_; refine AL.nil ?_; refine ⟨k + 1, ?_, by first | omega | (simp only []; omega), ?_, ?_⟩
   ·exact ⟨by omega, jC0 hok (by rw [jFh (by omega)]; simp_all)⟩
   ·exact wk
   exact sk
  refine AW.exit ?_; change AW _ _ _ _ _; refine AW.g (AL.ra ?_); refine AL.nil (AW.ret (r1t ?_)); rw [tabB_t (by omega) (by omega) (fun i hi => hok i (by omega))]
set_option maxRecDepth 100000
theorem has_f' {t : List PairD} {k j : Nat} {s : jAU} (hj : (t.take k).length ≤ j) (h : ∀ i (hi : i < (t.take k).length), i < j → decide ((t.take k)[i].from_ = s) = false) : ((t.take k).map PairD.from_).contains s = false := by
  rw [Bool.eq_false_iff]
  intro hc; rw [List.contains_iff_mem, List.mem_map] at hc; obtain ⟨p, hp, e⟩ := hc; obtain ⟨i, hi, rfl⟩ := List.mem_iff_getElem.1 hp
  have := h i hi (by omega)
  simp only [decide_eq_false_iff_not] at this
  exact this e
theorem has_t' {t : List PairD} {k j : Nat} {s : jAU} (hj : j < (t.take k).length) (h : (t.take k)[j].from_ = s) : ((t.take k).map PairD.from_).contains s = true := by
  rw [List.contains_iff_mem, List.mem_map]
  exact ⟨_, List.getElem_mem hj, h⟩
theorem jKz (t u : List PairD) : AC Tryz.prog 153 [.sl (t.map PairD.cs), .sl (u.map PairD.cs)] (fun x => x = .s (AB (tabB t u))) := by
  refine AC.of' 52 2 Tryz.func153 rfl ?_; change AW _ _ _ _ [TK.mk 0 .off, TK.mk 0 .off]; refine AW.g (AL.ra ?_); refine AL.nil (AW.seq (AW.g (AL.rm ?_))); refine AL.r (lN jCu) ?_; refine AL.r qb ?_; refine AL.rm ?_; refine AL.fk (d := 14) rfl (fun h14 => ?_) (fun h14 => ?_)
  ·refine AL.n ?_; (iterate 3 refine AL.rf ?_); refine AL.r qt ?_; refine AL.nil (AW.cond_t rfl (AW.g (AL.ra ?_))); refine AL.nil (AW.ret (r1t ?_)); rw [jGo (by omega)]
  refine AL.n ?_; refine AL.ro (jAa rfl rfl) ?_; refine AL.ro (lN jCu) ?_; refine AL.ro qb ?_; refine AL.r qf ?_; refine AL.nil (AW.cd rfl (fun h18 => ?_) (fun h18 => ?_))
  ·refine AW.g (AL.ra ?_); refine AL.nil (AW.ret (r1t ?_)); rw [jGo (by omega)]
  refine AW.skip (AW.seq (AW.g (AL.rm ?_))); refine AL.r (lN jCu) ?_; refine AL.rm ?_; refine AL.nil (AW.block (AW.loopM (ι := Nat) [4, 5, 6, 8, 9, 10, 22, 23, 24, 25, 26, 27, 28, 29, 30, 31, 32, 33, 34, 35, 36, 37, 38, 39, 40, 41, 42, 43, 44, 45, 46, 47, 48, 49, 50, 51, 52, 53] (fun k => [(21, AI (k : Int))]) [0, 1] (fun k => []) (fun k => k ≤ t.length ∧ ∀ i, i < k → okT t u i = true) (fun k => t.length - k) 0 (⟨by omega, fun i hi => absurd hi (by omega)⟩) wk sk ?_)); rintro k gs hJ; refine AW.nm ?_; obtain ⟨hk, hok⟩ := hJ; refine AW.g (AL.r qb ?_); refine AL.nil (AW.seq (AW.cd rfl (fun h22 => ?_) (fun h22 => ?_)))
  ·refine AW.skip (AW.seq (AW.block (AW.g (AL.rm ?_)))); refine AL.r (jAc rfl jCu rfl rfl rfl (jAy (by omega)) rfl) ?_; refine AL.r (jAv rfl jJW rfl (Nat.le_of_ble_eq_true rfl) rfl) ?_; refine AL.oq (AOpB.op (oA 0 jIV ?_)); refine AL.n ?_; refine AL.ra ?_; refine AL.oq (oS sz_46 ?_); refine AL.n ?_; refine AL.nil (AW.seq (AW.g (AL.r (qa jFC) ?_))); refine AL.r (ql ag_9) ?_; refine AL.cl (jDM _) ?_; refine AL.n ?_; refine AL.r qu ?_; refine AL.nil (AW.cd rfl (fun h29 => ?_) (fun h29 => ?_))
   ·refine AW.g (AL.ra ?_); refine AL.nil (AW.ret (r1t ?_)); rw [jHo (k := k) (by omega) (by rw [jFh (by omega)]; simp_all)]
   refine AW.skip (AW.seq (AW.g ?_)); (iterate 2 refine AL.rm ?_); refine AL.r (jB8 rfl jCu rfl (by first | exact jHA | exact jDf | (intro cs hcs; obtain rfl := List.mem_singleton.1 hcs; rfl) | (intro cs hcs; obtain ⟨_, _, rfl⟩ := List.mem_map.1 hcs; rfl)) rfl ⟨_, _, rfl, rfl⟩ (by omega) (by simp only [jAQ, jAd, List.length_map]; omega)) ?_; refine AL.r (lN jCu) ?_; refine AL.rm ?_; refine AL.nil (AW.block (AW.loopM (ι := Nat) [4, 8, 35, 36, 37, 38, 39, 40, 41, 42, 43] (fun j => [(34, AI (j : Int))]) [1] (fun j => []) (fun j => j ≤ (t.take k).length ∧ ∀ i (hi : i < (t.take k).length), i < j → decide ((t.take k)[i].from_ = (t[k]'(by omega)).from_) = false) (fun j => (t.take k).length - j) 0 (⟨by omega, fun i _ hi => absurd hi (by omega)⟩) wk sk ?_)); rintro j gs hJ; refine AW.nm ?_; obtain ⟨hj, hoj⟩ := hJ; (have hq := List.length_take_le k t); refine AW.g (AL.r qb ?_); refine AL.nil (AW.seq (AW.cd rfl (fun h35 => ?_) (fun h35 => ?_)))
   ·refine AW.skip (AW.seq (AW.block (AW.g (AL.r (jAc rfl jCu rfl rfl rfl (jAy (by omega)) rfl) ?_)))); refine AL.r (jAv rfl jJW rfl (Nat.le_of_ble_eq_true rfl) rfl) ?_; refine AL.oq (AOpB.op (oA 1 jIV ?_)); refine AL.n ?_; refine AL.oq (oS sz_46 ?_); refine AL.n ?_; refine AL.nil (AW.g ?_); (iterate 2 (refine AL.r (qa jFC) ?_; refine AL.r (ql ag_9) ?_)); refine AL.r (jBi rfl rfl rfl) ?_; refine AL.nil (AW.cd rfl (fun h42 => ?_) (fun h42 => ?_))
    ·refine AW.g (AL.ra ?_); refine AL.nil (AW.ret (r1t ?_)); rw [jHo (k := k) (by omega) (by rw [jFh (by omega), has_t' (by omega) h42]; simp)]
    refine AW.skip ?_; change AW _ _ _ _ _; refine AW.region ?_; refine AL.r qA ?_; refine AL.rm ?_; refine AL.nil ?_; refine ⟨j + 1, ?_, by first | omega | (simp only []; omega), ?_, ?_⟩
    ·exact ⟨by omega, jC8 (p := fun (y : PairD) => decide (y.from_ = (t[k]'(by omega)).from_) = false) (by omega) hoj (decide_eq_false h42)⟩
    ·exact wk
    exact sk
   refine AW.exit ?_; change AW _ _ _ _ _; refine AW.g (AL.rm ?_); refine AL.r (qa jIj) ?_; refine AL.r (ql ag_9) ?_; refine AL.cl (jMb u (t[k]'(by omega)).tQ) ?_; refine AL.n ?_; refine AL.rm ?_; refine AL.r qe ?_; refine AL.r qe ?_; (iterate 2 refine AL.ra ?_); refine AL.nil (AW.g (AL.rm ?_)); refine AL.r qu ?_; refine AL.nil (AW.cd rfl (fun h52 => ?_) (fun h52 => ?_))
   ·refine AW.g (AL.ra ?_); refine AL.nil (AW.ret (r1t ?_)); rw [jHo (k := k) (by omega) (by rw [jFh (by omega)]; rw [jHW] at h52; simp_all)]
   refine AW.skip ?_; change AW _ _ _ _ _; refine AW.region ?_; refine AL.r qA ?_; refine AL.rm ?_; refine AL.nil ?_; refine ⟨k + 1, ?_, by first | omega | (simp only []; omega), ?_, ?_⟩
   ·exact ⟨by omega, jC0 hok (by rw [jFh (by omega), has_f' (by omega) hoj]; rw [jHW] at h52; simp_all)⟩
   ·exact wk
   exact sk
  refine AW.exit ?_; change AW _ _ _ _ _; refine AW.g (AL.ra ?_); refine AL.nil (AW.ret (r1t ?_)); rw [tabB_t (by omega) (by omega) (fun i hi => hok i (by omega))]
end Go.Proofs.YtlapcfnmmpbeeaaGreat
