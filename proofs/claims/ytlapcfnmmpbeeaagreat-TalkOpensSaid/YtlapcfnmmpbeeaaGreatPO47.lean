/- A part of a proof. -/
import Derived.Test.YtlapcfnmmpbeeaaGreatPO36
set_option linter.unusedSimpArgs false
set_option linter.unusedVariables false
namespace Go.Proofs.YtlapcfnmmpbeeaaGreat
set_option maxRecDepth 100000
set_option maxRecDepth 100000
open Go.RowKit
theorem nl15 {a b : Bool} (h : a = b := by rw [Bool.eq_iff_iff]; simp only [jBn, frB, z6]; simp_all [-List.length_eq_zero_iff, jFk] <;> omega) : RS.s (AB a) = RS.s (AB b) := sb h
set_option maxHeartbeats 1000000 in
theorem rright_1 (fr fm : Int) (hv : V6D) (tg : List TagD) (ed : List EdgeD) (os : List OpD) (hs : ∀ e ∈ ed, e.lens.Small) (ht : tg.length ≤ 1000) (hel : ed.length ≤ 1000) (hol : os.length ≤ 1000) : AC Tryz.prog 9 [(NoteD.mk 1 fr fm hv tg ed os).av] (fun r => r = .s (AB (jBn ⟨1, fr, fm, hv, tg, ed, os⟩))) := by
  change AC _ _ [.ag [AI 1, AI fr, AI fm, AI hv.a, AI hv.b, AI hv.c, AI hv.d, AI hv.e, AI hv.f, .sl (tg.map TagD.cs), .sl (ed.map EdgeD.cs), .sl (os.map OpD.cs)]] _; refine AC.of' 144 2 Tryz.func9 rfl ?_; change AW _ _ _ _ [TK.mk 0 .off, TK.mk 0 .off]; refine AW.g (AL.oq (AOpB.op (oB 0 ?_))); refine AL.n ?_; refine AL.ra ?_; refine AL.nil (AW.seq (AW.g (AL.r (qa jBP) ?_))); refine AL.r (ql ag_3) ?_; refine AL.r qb ?_; refine AL.rm ?_; refine AL.fk (d := 9) rfl (fun h9 => ?_) (fun h9 => ?_)
  ·refine AL.n ?_; (iterate 3 refine AL.rf ?_); refine AL.r qt ?_; refine AL.nil (AW.cond_t rfl (AW.g (AL.ra ?_))); refine AL.nil (AW.ret (r1t ?_)); exact nl15
  refine AL.n ?_; refine AL.ro (qa jBP) ?_; refine AL.ro (ql ag_3) ?_; refine AL.ro qb ?_; refine AL.r qf ?_; refine AL.nil (AW.cd rfl (fun h13 => ?_) (fun h13 => ?_))
  ·refine AW.g (AL.ra ?_); refine AL.nil (AW.ret (r1t ?_)); exact nl15
  refine AW.skip (AW.g (AL.r (jCE rfl jBS jFf rfl rfl) ?_)); refine AL.oq (AOpB.op (oA 1 jFf ?_)); refine AL.n ?_; refine AL.oq (oS jGN ?_); refine AL.b ?_; refine AL.nil (AW.seq (AW.g (AL.r (qa jAo) ?_))); refine AL.r (ql ag_3) ?_; refine AL.r qb ?_; refine AL.nil (AW.cond_t rfl (AW.g (AL.r (qa jCJ) ?_))); refine AL.r (ql ag_3) ?_; refine AL.r qb ?_; refine AL.rm ?_; refine AL.fk (d := 21) rfl (fun h21 => ?_) (fun h21 => ?_)
  ·refine AL.n ?_; (iterate 3 refine AL.rf ?_); refine AL.r qt ?_; refine AL.rm ?_; refine AL.ro (qa jCf) ?_; refine AL.ro (qN jDW) ?_; refine AL.on rfl rfl rfl (AOpB.op (jAb (jGC hv) rfl (by kernel_rfl) rfl (none) ?_)); rintro r rfl; refine AL.n ?_; refine AL.r qt ?_; refine AL.rm ?_; refine AL.fk (d := 31) rfl (fun h31 => ?_) (fun h31 => ?_)
   ·refine AL.n ?_; refine AL.ro (qa jCw) ?_; refine AL.ro (ql jCs) ?_; refine AL.on rfl rfl rfl (AOpB.op (jAb (jIG tg ht) rfl (by kernel_rfl) rfl (none) ?_)); rintro r rfl; refine AL.n ?_; refine AL.r qt ?_; refine AL.rm ?_; refine AL.fk (d := 36) rfl (fun h36 => ?_) (fun h36 => ?_)
    ·refine AL.n ?_; refine AL.ro (qa jCg) ?_; refine AL.ro (ql jFb) ?_; refine AL.ro (lN jDn) ?_; refine AL.ro qb ?_; refine AL.r qt ?_; refine AL.rm ?_; refine AL.fk (d := 42) rfl (fun h42 => ?_) (fun h42 => ?_)
     ·refine AL.n ?_; refine AL.ro (qa jCe) ?_; refine AL.ro (ql jFe) ?_; refine AL.ro (lN jDp) ?_; refine AL.ro qb ?_; refine AL.r qt ?_; refine AL.ra ?_; refine AL.nil (AW.ret (r1t ?_)); exact nl15
     refine AL.n ?_; (iterate 4 refine AL.rf ?_); refine AL.r qf ?_; refine AL.ra ?_; refine AL.nil (AW.ret (r1t ?_)); exact nl15
    refine AL.n ?_; (iterate 4 refine AL.rf ?_); refine AL.r qf ?_; refine AL.rm ?_; (iterate 4 refine AL.rf ?_); refine AL.r qf ?_; refine AL.ra ?_; refine AL.nil (AW.ret (r1t ?_)); exact nl15
   refine AL.n ?_; (iterate 3 refine AL.rf ?_); (iterate 2 (refine AL.r qf ?_; refine AL.rm ?_; (iterate 4 refine AL.rf ?_))); refine AL.r qf ?_; refine AL.ra ?_; refine AL.nil (AW.ret (r1t ?_)); exact nl15
  refine AL.n ?_; refine AL.ro (qa jCJ) ?_; refine AL.ro (ql ag_3) ?_; refine AL.ro qb ?_; refine AL.r qf ?_; refine AL.rm ?_; refine AL.fk (d := 26) rfl (fun h26 => ?_) (fun h26 => ?_)
  ·refine AL.n ?_; refine AL.ro (qa jCf) ?_; refine AL.ro (qN jDW) ?_; refine AL.on rfl rfl rfl (AOpB.op (jAb (jGC hv) rfl (by kernel_rfl) rfl (none) ?_)); rintro r rfl; refine AL.n ?_; refine AL.r qt ?_; refine AL.rm ?_; refine AL.fk (d := 31) rfl (fun h31 => ?_) (fun h31 => ?_)
   ·refine AL.n ?_; refine AL.ro (qa jCw) ?_; refine AL.ro (ql jCs) ?_; refine AL.on rfl rfl rfl (AOpB.op (jAb (jIG tg ht) rfl (by kernel_rfl) rfl (none) ?_)); rintro r rfl; refine AL.n ?_; refine AL.r qt ?_; refine AL.rm ?_; refine AL.fk (d := 36) rfl (fun h36 => ?_) (fun h36 => ?_)
    ·refine AL.n ?_; refine AL.ro (qa jCg) ?_; refine AL.ro (ql jFb) ?_; refine AL.ro (lN jDn) ?_; refine AL.ro qb ?_; refine AL.r qt ?_; refine AL.rm ?_; refine AL.fk (d := 42) rfl (fun h42 => ?_) (fun h42 => ?_)
     ·refine AL.n ?_; refine AL.ro (qa jCe) ?_; refine AL.ro (ql jFe) ?_; refine AL.ro (lN jDp) ?_; refine AL.ro qb ?_; refine AL.r qt ?_; refine AL.ra ?_; refine AL.nil (AW.ret (r1t ?_)); exact nl15
     refine AL.n ?_; (iterate 4 refine AL.rf ?_); refine AL.r qf ?_; refine AL.ra ?_; refine AL.nil (AW.ret (r1t ?_)); exact nl15
    refine AL.n ?_; (iterate 4 refine AL.rf ?_); refine AL.r qf ?_; refine AL.rm ?_; (iterate 4 refine AL.rf ?_); refine AL.r qf ?_; refine AL.ra ?_; refine AL.nil (AW.ret (r1t ?_)); exact nl15
   refine AL.n ?_; (iterate 3 refine AL.rf ?_); (iterate 2 (refine AL.r qf ?_; refine AL.rm ?_; (iterate 4 refine AL.rf ?_))); refine AL.r qf ?_; refine AL.ra ?_; refine AL.nil (AW.ret (r1t ?_)); exact nl15
  refine AL.n ?_; (iterate 2 ((iterate 3 refine AL.rf ?_); refine AL.r qf ?_; refine AL.rm ?_)); (iterate 4 refine AL.rf ?_); refine AL.r qf ?_; refine AL.rm ?_; (iterate 4 refine AL.rf ?_); refine AL.r qf ?_; refine AL.ra ?_; refine AL.nil (AW.ret (r1t ?_)); exact nl15
set_option maxHeartbeats 1000000 in
theorem rright_2 (fr fm : Int) (hv : V6D) (tg : List TagD) (ed : List EdgeD) (os : List OpD) (hs : ∀ e ∈ ed, e.lens.Small) (ht : tg.length ≤ 1000) (hel : ed.length ≤ 1000) (hol : os.length ≤ 1000) : AC Tryz.prog 9 [(NoteD.mk 2 fr fm hv tg ed os).av] (fun r => r = .s (AB (jBn ⟨2, fr, fm, hv, tg, ed, os⟩))) := by
  change AC _ _ [.ag [AI 2, AI fr, AI fm, AI hv.a, AI hv.b, AI hv.c, AI hv.d, AI hv.e, AI hv.f, .sl (tg.map TagD.cs), .sl (ed.map EdgeD.cs), .sl (os.map OpD.cs)]] _; refine AC.of' 144 2 Tryz.func9 rfl ?_; change AW _ _ _ _ [TK.mk 0 .off, TK.mk 0 .off]; refine AW.g (AL.oq (AOpB.op (oB 0 ?_))); refine AL.n ?_; refine AL.ra ?_; refine AL.nil (AW.seq (AW.g (AL.r (qa jBP) ?_))); refine AL.r (ql ag_3) ?_; refine AL.r qb ?_; refine AL.rm ?_; refine AL.fk (d := 9) rfl (fun h9 => ?_) (fun h9 => ?_)
  ·refine AL.n ?_; (iterate 3 refine AL.rf ?_); refine AL.r qt ?_; refine AL.nil (AW.cond_t rfl (AW.g (AL.ra ?_))); refine AL.nil (AW.ret (r1t ?_)); exact nl15
  refine AL.n ?_; refine AL.ro (qa jBP) ?_; refine AL.ro (ql ag_3) ?_; refine AL.ro qb ?_; refine AL.r qf ?_; refine AL.nil (AW.cd rfl (fun h13 => ?_) (fun h13 => ?_))
  ·refine AW.g (AL.ra ?_); refine AL.nil (AW.ret (r1t ?_)); exact nl15
  refine AW.skip (AW.g (AL.r (jCE rfl jBS jFf rfl rfl) ?_)); refine AL.oq (AOpB.op (oA 1 jFf ?_)); refine AL.n ?_; refine AL.oq (oS jGN ?_); refine AL.b ?_; refine AL.nil (AW.seq (AW.g (AL.r (qa jAo) ?_))); refine AL.r (ql ag_3) ?_; refine AL.r qb ?_; refine AL.nil (AW.cond_f rfl (AW.skip (AW.seq (AW.g (AL.r (qa jCJ) ?_))))); refine AL.r (ql ag_3) ?_; refine AL.r qb ?_; refine AL.rm ?_; refine AL.fk (d := 51) rfl (fun h51 => ?_) (fun h51 => ?_)
  ·refine AL.n ?_; (iterate 4 refine AL.rf ?_); refine AL.r qt ?_; refine AL.nil (AW.cond_t rfl (AW.g (AL.ra ?_))); refine AL.nil (AW.ret (r1t ?_)); exact nl15
  refine AL.n ?_; refine AL.ro (qa jCw) ?_; refine AL.ro (ql jCs) ?_; refine AL.ro (lN jB5) ?_; refine AL.ro qb ?_; refine AL.r qf ?_; refine AL.nil (AW.cd rfl (fun h56 => ?_) (fun h56 => ?_))
  ·refine AW.g (AL.ra ?_); refine AL.nil (AW.ret (r1t ?_)); exact nl15
  refine AW.skip (AW.seq (AW.g (AL.r (qa jAo) ?_))); refine AL.r (ql ag_3) ?_; refine AL.r qb ?_; refine AL.nil (AW.cond_f rfl (AW.skip (AW.seq (AW.g (AL.r (qa jCf) ?_))))); refine AL.r (qN jDW) ?_; refine AL.r (qN jDW) ?_; refine AL.r (jCT rfl rfl rfl) ?_; refine AL.nil (AW.cd rfl (fun h78 => ?_) (fun h78 => ?_))
  ·refine AW.g (AL.ra ?_); refine AL.nil (AW.ret (r1t ?_)); exact nl15
  refine AW.skip (AW.seq (AW.g (AL.r (qa jAo) ?_))); refine AL.r (ql ag_3) ?_; refine AL.r qb ?_; refine AL.nil (AW.cond_t rfl (AW.seq (AW.g (AL.ra ?_)))); refine AL.nil (AW.block (AW.loopM (ι := Nat) [2, 82, 83, 84, 85, 86, 87, 88, 89, 90, 91, 92, 93, 94, 95] (fun k => [(4, AI (k : Int))]) [] (fun k => []) (fun k => k ≤ ed.length ∧ ∀ i (hi : i < ed.length), i < k → jDE ed[i] = true) (fun k => ed.length - k) 0 (⟨by omega, fun i _ hi => absurd hi (by omega)⟩) wk sk ?_)); rintro k gs hJ; refine AW.nm ?_; obtain ⟨hk, hok⟩ := hJ; refine AW.seq (AW.g (AL.rm ?_)); refine AL.r (qa jCg) ?_; refine AL.r (ql jFb) ?_; refine AL.r (lN jDn) ?_; refine AL.r qb ?_; refine AL.nil (AW.cd rfl (fun h86 => ?_) (fun h86 => ?_))
  ·refine AW.skip (AW.seq (AW.block (AW.g (AL.r (qa jCg) ?_)))); refine AL.r (ql jFb) ?_; refine AL.rm ?_; refine AL.r (jAc rfl jDn rfl rfl rfl (jLI (by omega)) rfl) ?_; refine AL.r (jAv rfl jDJ rfl (Nat.le_of_ble_eq_true rfl) rfl) ?_; refine AL.cl (jK4 (ed[k]'(by omega)) (hs _ (List.getElem_mem _))) ?_; refine AL.n ?_; refine AL.r qu ?_; refine AL.nil (AW.cd rfl (fun h95 => ?_) (fun h95 => ?_))
   ·refine AW.g (AL.ra ?_); refine AL.nil (AW.ret (r1t ?_))
    (refine sb ?_; have hf := chB_f (p := jDE) (k := k) (l := ed) (by omega) (by simpa using h95); simp [jBn, hf])
   refine AW.skip ?_; change AW _ _ _ _ _; refine AW.region ?_; refine AL.rm ?_; refine AL.r qA ?_; refine AL.ra ?_; refine AL.nil ?_; refine ⟨k + 1, ?_, by first | omega | (simp only []; omega), ?_, ?_⟩
   ·exact ⟨by omega, jC8 (p := fun x => jDE x = true) (by omega) hok (by simpa using h95)⟩
   ·exact wk
   exact sk
  refine AW.exit ?_; change AW _ _ _ _ _; refine AW.g (AL.r (qa jCg) ?_); refine AL.r (ql jFb) ?_; refine AL.r (lN jDn) ?_; refine AL.r qb ?_; refine AL.rm ?_; refine AL.fk (d := 100) rfl (fun h100 => ?_) (fun h100 => ?_)
  ·refine AL.n ?_; refine AL.ro (qa jCg) ?_; refine AL.ro (ql jFb) ?_; refine AL.ro (lN jDn) ?_; refine AL.ro qb ?_; refine AL.r qt ?_; refine AL.rm ?_; refine AL.fk (d := 106) rfl (fun h106 => ?_) (fun h106 => ?_)
   ·refine AL.n ?_; refine AL.ro (qa jCe) ?_; refine AL.ro (ql jFe) ?_; refine AL.ro (lN jDp) ?_; refine AL.ro qb ?_; refine AL.r qt ?_; refine AL.ra ?_; refine AL.nil (AW.ret (r1t ?_))
    (refine sb ?_; have hal : ed.all jDE = true := List.all_eq_true.2 (fun x hx => by obtain ⟨i, hi, rfl⟩ := List.getElem_of_mem hx; exact hok i hi (by omega)); rw [Bool.eq_iff_iff]; simp only [jBn, frB, z6, chB, hal]; simp_all [-List.length_eq_zero_iff, jFk] <;> omega)
   refine AL.n ?_; (iterate 4 refine AL.rf ?_); refine AL.r qf ?_; refine AL.ra ?_; refine AL.nil (AW.ret (r1t ?_))
   (refine sb ?_; have hal : ed.all jDE = true := List.all_eq_true.2 (fun x hx => by obtain ⟨i, hi, rfl⟩ := List.getElem_of_mem hx; exact hok i hi (by omega)); rw [Bool.eq_iff_iff]; simp only [jBn, frB, z6, chB, hal]; simp_all [-List.length_eq_zero_iff, jFk] <;> omega)
  refine AL.n ?_; (iterate 4 refine AL.rf ?_); refine AL.r qf ?_; refine AL.rm ?_; (iterate 4 refine AL.rf ?_); refine AL.r qf ?_; refine AL.ra ?_; refine AL.nil (AW.ret (r1t ?_))
  (refine sb ?_; have hal : ed.all jDE = true := List.all_eq_true.2 (fun x hx => by obtain ⟨i, hi, rfl⟩ := List.getElem_of_mem hx; exact hok i hi (by omega)); rw [Bool.eq_iff_iff]; simp only [jBn, frB, z6, chB, hal]; simp_all [-List.length_eq_zero_iff, jFk] <;> omega)
set_option maxHeartbeats 1000000 in
theorem rright_3 (fr fm : Int) (hv : V6D) (tg : List TagD) (ed : List EdgeD) (os : List OpD) (hs : ∀ e ∈ ed, e.lens.Small) (ht : tg.length ≤ 1000) (hel : ed.length ≤ 1000) (hol : os.length ≤ 1000) : AC Tryz.prog 9 [(NoteD.mk 3 fr fm hv tg ed os).av] (fun r => r = .s (AB (jBn ⟨3, fr, fm, hv, tg, ed, os⟩))) := by
  change AC _ _ [.ag [AI 3, AI fr, AI fm, AI hv.a, AI hv.b, AI hv.c, AI hv.d, AI hv.e, AI hv.f, .sl (tg.map TagD.cs), .sl (ed.map EdgeD.cs), .sl (os.map OpD.cs)]] _; refine AC.of' 144 2 Tryz.func9 rfl ?_; change AW _ _ _ _ [TK.mk 0 .off, TK.mk 0 .off]; refine AW.g (AL.oq (AOpB.op (oB 0 ?_))); refine AL.n ?_; refine AL.ra ?_; refine AL.nil (AW.seq (AW.g (AL.r (qa jBP) ?_))); refine AL.r (ql ag_3) ?_; refine AL.r qb ?_; refine AL.rm ?_; refine AL.fk (d := 9) rfl (fun h9 => ?_) (fun h9 => ?_)
  ·refine AL.n ?_; (iterate 3 refine AL.rf ?_); refine AL.r qt ?_; refine AL.nil (AW.cond_t rfl (AW.g (AL.ra ?_))); refine AL.nil (AW.ret (r1t ?_)); exact nl15
  refine AL.n ?_; refine AL.ro (qa jBP) ?_; refine AL.ro (ql ag_3) ?_; refine AL.ro qb ?_; refine AL.r qf ?_; refine AL.nil (AW.cd rfl (fun h13 => ?_) (fun h13 => ?_))
  ·refine AW.g (AL.ra ?_); refine AL.nil (AW.ret (r1t ?_)); exact nl15
  refine AW.skip (AW.g (AL.r (jCE rfl jBS jFf rfl rfl) ?_)); refine AL.oq (AOpB.op (oA 1 jFf ?_)); refine AL.n ?_; refine AL.oq (oS jGN ?_); refine AL.b ?_; refine AL.nil (AW.seq (AW.g (AL.r (qa jAo) ?_))); refine AL.r (ql ag_3) ?_; refine AL.r qb ?_; refine AL.nil (AW.cond_f rfl (AW.skip (AW.seq (AW.g (AL.r (qa jCJ) ?_))))); refine AL.r (ql ag_3) ?_; refine AL.r qb ?_; refine AL.rm ?_; refine AL.fk (d := 51) rfl (fun h51 => ?_) (fun h51 => ?_)
  ·refine AL.n ?_; (iterate 4 refine AL.rf ?_); refine AL.r qt ?_; refine AL.nil (AW.cond_t rfl (AW.g (AL.ra ?_))); refine AL.nil (AW.ret (r1t ?_)); exact nl15
  refine AL.n ?_; refine AL.ro (qa jCw) ?_; refine AL.ro (ql jCs) ?_; refine AL.ro (lN jB5) ?_; refine AL.ro qb ?_; refine AL.r qf ?_; refine AL.nil (AW.cd rfl (fun h56 => ?_) (fun h56 => ?_))
  ·refine AW.g (AL.ra ?_); refine AL.nil (AW.ret (r1t ?_)); exact nl15
  refine AW.skip (AW.seq (AW.g (AL.r (qa jAo) ?_))); refine AL.r (ql ag_3) ?_; refine AL.r qb ?_; refine AL.nil (AW.cond_f rfl (AW.skip (AW.seq (AW.g (AL.r (qa jCf) ?_))))); refine AL.r (qN jDW) ?_; refine AL.r (qN jDW) ?_; refine AL.r (jCT rfl rfl rfl) ?_; refine AL.nil (AW.cd rfl (fun h78 => ?_) (fun h78 => ?_))
  ·refine AW.g (AL.ra ?_); refine AL.nil (AW.ret (r1t ?_)); exact nl15
  refine AW.skip (AW.seq (AW.g (AL.r (qa jAo) ?_))); refine AL.r (ql ag_3) ?_; refine AL.r qb ?_; refine AL.nil (AW.cond_f rfl (AW.skip (AW.seq (AW.g (AL.r (qa jAo) ?_))))); refine AL.r (ql ag_3) ?_; refine AL.r qb ?_; refine AL.nil (AW.cond_f rfl (AW.skip (AW.seq (AW.g (AL.ra ?_))))); refine AL.nil (AW.block (AW.loopM (ι := Nat) [2, 115, 116, 117, 118, 119, 120, 121, 122, 123, 124, 125, 126, 127, 128] (fun k => [(5, AI (k : Int))]) [] (fun k => []) (fun k => k ≤ os.length ∧ ∀ i (hi : i < os.length), i < k → jBs os[i] = true) (fun k => os.length - k) 0 (⟨by omega, fun i _ hi => absurd hi (by omega)⟩) wk sk ?_))
  rintro k gs hJ; refine AW.nm ?_; obtain ⟨hk, hok⟩ := hJ; refine AW.seq (AW.g (AL.rm ?_)); refine AL.r (qa jCe) ?_; refine AL.r (ql jFe) ?_; refine AL.r (lN jDp) ?_; refine AL.r qb ?_; refine AL.nil (AW.cd rfl (fun h119 => ?_) (fun h119 => ?_))
  ·refine AW.skip (AW.seq (AW.block (AW.g (AL.r (qa jCe) ?_)))); refine AL.r (ql jFe) ?_; refine AL.rm ?_; refine AL.r (jAc rfl jDp rfl rfl rfl (jLE (by omega)) rfl) ?_; refine AL.r (jAv rfl jAZ rfl (Nat.le_of_ble_eq_true rfl) rfl) ?_; refine AL.cl (jKr (os[k]'(by omega))) ?_; refine AL.n ?_; refine AL.r qu ?_; refine AL.nil (AW.cd rfl (fun h128 => ?_) (fun h128 => ?_))
   ·refine AW.g (AL.ra ?_); refine AL.nil (AW.ret (r1t ?_))
    (refine sb ?_; have hf := chB_f (p := jBs) (k := k) (l := os) (by omega) (by simpa using h128); simp [jBn, hf])
   refine AW.skip ?_; change AW _ _ _ _ _; refine AW.region ?_; refine AL.rm ?_; refine AL.r qA ?_; refine AL.ra ?_; refine AL.nil ?_; refine ⟨k + 1, ?_, by first | omega | (simp only []; omega), ?_, ?_⟩
   ·exact ⟨by omega, jC8 (p := fun x => jBs x = true) (by omega) hok (by simpa using h128)⟩
   ·exact wk
   exact sk
  refine AW.exit ?_; change AW _ _ _ _ _; refine AW.g (AL.r (qa jCe) ?_); refine AL.r (ql jFe) ?_; refine AL.r (lN jDp) ?_; refine AL.r qb ?_; refine AL.rm ?_; refine AL.fk (d := 133) rfl (fun h133 => ?_) (fun h133 => ?_)
  ·refine AL.n ?_; refine AL.ro (qa jCe) ?_; refine AL.ro (ql jFe) ?_; refine AL.ro (lN jDp) ?_; refine AL.ro qb ?_; refine AL.r qt ?_; refine AL.rm ?_; refine AL.fk (d := 139) rfl (fun h139 => ?_) (fun h139 => ?_)
   ·refine AL.n ?_; refine AL.ro (qa jCg) ?_; refine AL.ro (ql jFb) ?_; refine AL.ro (lN jDn) ?_; refine AL.ro qb ?_; refine AL.r qt ?_; refine AL.ra ?_; refine AL.nil (AW.ret (r1t ?_))
    (refine sb ?_; have hal : os.all jBs = true := List.all_eq_true.2 (fun x hx => by obtain ⟨i, hi, rfl⟩ := List.getElem_of_mem hx; exact hok i hi (by omega)); rw [Bool.eq_iff_iff]; simp only [jBn, frB, z6, chB, hal]; simp_all [-List.length_eq_zero_iff, jFk] <;> omega)
   refine AL.n ?_; (iterate 4 refine AL.rf ?_); refine AL.r qf ?_; refine AL.ra ?_; refine AL.nil (AW.ret (r1t ?_))
   (refine sb ?_; have hal : os.all jBs = true := List.all_eq_true.2 (fun x hx => by obtain ⟨i, hi, rfl⟩ := List.getElem_of_mem hx; exact hok i hi (by omega)); rw [Bool.eq_iff_iff]; simp only [jBn, frB, z6, chB, hal]; simp_all [-List.length_eq_zero_iff, jFk] <;> omega)
  refine AL.n ?_; (iterate 4 refine AL.rf ?_); refine AL.r qf ?_; refine AL.rm ?_; (iterate 4 refine AL.rf ?_); refine AL.r qf ?_; refine AL.ra ?_; refine AL.nil (AW.ret (r1t ?_))
  (refine sb ?_; have hal : os.all jBs = true := List.all_eq_true.2 (fun x hx => by obtain ⟨i, hi, rfl⟩ := List.getElem_of_mem hx; exact hok i hi (by omega)); rw [Bool.eq_iff_iff]; simp only [jBn, frB, z6, chB, hal]; simp_all [-List.length_eq_zero_iff, jFk] <;> omega)
set_option maxHeartbeats 1000000 in
theorem rright_4 (fr fm : Int) (hv : V6D) (tg : List TagD) (ed : List EdgeD) (os : List OpD) (hs : ∀ e ∈ ed, e.lens.Small) (ht : tg.length ≤ 1000) (hel : ed.length ≤ 1000) (hol : os.length ≤ 1000) : AC Tryz.prog 9 [(NoteD.mk 4 fr fm hv tg ed os).av] (fun r => r = .s (AB (jBn ⟨4, fr, fm, hv, tg, ed, os⟩))) := by
  change AC _ _ [.ag [AI 4, AI fr, AI fm, AI hv.a, AI hv.b, AI hv.c, AI hv.d, AI hv.e, AI hv.f, .sl (tg.map TagD.cs), .sl (ed.map EdgeD.cs), .sl (os.map OpD.cs)]] _; refine AC.of' 144 2 Tryz.func9 rfl ?_; change AW _ _ _ _ [TK.mk 0 .off, TK.mk 0 .off]; refine AW.g (AL.oq (AOpB.op (oB 0 ?_))); refine AL.n ?_; refine AL.ra ?_; refine AL.nil (AW.seq (AW.g (AL.r (qa jBP) ?_))); refine AL.r (ql ag_3) ?_; refine AL.r qb ?_; refine AL.rm ?_; refine AL.fk (d := 9) rfl (fun h9 => ?_) (fun h9 => ?_)
  ·refine AL.n ?_; (iterate 3 refine AL.rf ?_); refine AL.r qt ?_; refine AL.nil (AW.cond_t rfl (AW.g (AL.ra ?_))); refine AL.nil (AW.ret (r1t ?_)); exact nl15
  refine AL.n ?_; refine AL.ro (qa jBP) ?_; refine AL.ro (ql ag_3) ?_; refine AL.ro qb ?_; refine AL.r qf ?_; refine AL.nil (AW.cd rfl (fun h13 => ?_) (fun h13 => ?_))
  ·refine AW.g (AL.ra ?_); refine AL.nil (AW.ret (r1t ?_)); exact nl15
  refine AW.skip (AW.g (AL.r (jCE rfl jBS jFf rfl rfl) ?_)); refine AL.oq (AOpB.op (oA 1 jFf ?_)); refine AL.n ?_; refine AL.oq (oS jGN ?_); refine AL.b ?_; refine AL.nil (AW.seq (AW.g (AL.r (qa jAo) ?_))); refine AL.r (ql ag_3) ?_; refine AL.r qb ?_; refine AL.nil (AW.cond_f rfl (AW.skip (AW.seq (AW.g (AL.r (qa jCJ) ?_))))); refine AL.r (ql ag_3) ?_; refine AL.r qb ?_; refine AL.rm ?_; refine AL.fk (d := 51) rfl (fun h51 => ?_) (fun h51 => ?_)
  ·refine AL.n ?_; (iterate 4 refine AL.rf ?_); refine AL.r qt ?_; refine AL.nil (AW.cond_t rfl (AW.g (AL.ra ?_))); refine AL.nil (AW.ret (r1t ?_)); exact nl15
  refine AL.n ?_; refine AL.ro (qa jCw) ?_; refine AL.ro (ql jCs) ?_; refine AL.ro (lN jB5) ?_; refine AL.ro qb ?_; refine AL.r qf ?_; refine AL.nil (AW.cd rfl (fun h56 => ?_) (fun h56 => ?_))
  ·refine AW.g (AL.ra ?_); refine AL.nil (AW.ret (r1t ?_)); exact nl15
  refine AW.skip (AW.seq (AW.g (AL.r (qa jAo) ?_))); refine AL.r (ql ag_3) ?_; refine AL.r qb ?_; refine AL.nil (AW.cond_t rfl (AW.g (AL.r (qa jCf) ?_))); refine AL.r (qN jDW) ?_; refine AL.cl (jGC hv) ?_; refine AL.n ?_; refine AL.rm ?_; refine AL.fk (d := 63) rfl (fun h63 => ?_) (fun h63 => ?_)
  ·refine AL.n ?_; refine AL.ro (qa jCg) ?_; refine AL.ro (ql jFb) ?_; refine AL.ro (lN jDn) ?_; refine AL.ro qb ?_; refine AL.r qt ?_; refine AL.rm ?_; refine AL.fk (d := 69) rfl (fun h69 => ?_) (fun h69 => ?_)
   ·refine AL.n ?_; refine AL.ro (qa jCe) ?_; refine AL.ro (ql jFe) ?_; refine AL.ro (lN jDp) ?_; refine AL.ro qb ?_; refine AL.r qt ?_; refine AL.ra ?_; refine AL.nil (AW.ret (r1t ?_)); exact nl15
   refine AL.n ?_; (iterate 4 refine AL.rf ?_); refine AL.r qf ?_; refine AL.ra ?_; refine AL.nil (AW.ret (r1t ?_)); exact nl15
  refine AL.n ?_; (iterate 4 refine AL.rf ?_); refine AL.r qf ?_; refine AL.rm ?_; (iterate 4 refine AL.rf ?_); refine AL.r qf ?_; refine AL.ra ?_; refine AL.nil (AW.ret (r1t ?_)); exact nl15
set_option maxHeartbeats 1000000 in
theorem rright_o (k0 : Int) (h1 : k0 ≠ 1) (h2 : k0 ≠ 2) (h3 : k0 ≠ 3) (h4 : k0 ≠ 4) (fr fm : Int) (hv : V6D) (tg : List TagD) (ed : List EdgeD) (os : List OpD) (hs : ∀ e ∈ ed, e.lens.Small) (ht : tg.length ≤ 1000) (hel : ed.length ≤ 1000) (hol : os.length ≤ 1000) : AC Tryz.prog 9 [(NoteD.mk k0 fr fm hv tg ed os).av] (fun r => r = .s (AB (jBn ⟨k0, fr, fm, hv, tg, ed, os⟩))) := by
  change AC _ _ [.ag [AI k0, AI fr, AI fm, AI hv.a, AI hv.b, AI hv.c, AI hv.d, AI hv.e, AI hv.f, .sl (tg.map TagD.cs), .sl (ed.map EdgeD.cs), .sl (os.map OpD.cs)]] _; refine AC.of' 144 2 Tryz.func9 rfl ?_; change AW _ _ _ _ [TK.mk 0 .off, TK.mk 0 .off]; refine AW.g (AL.oq (AOpB.op (oB 0 ?_))); refine AL.n ?_; refine AL.ra ?_; refine AL.nil (AW.seq (AW.g (AL.r (qa jBP) ?_))); refine AL.r (ql ag_3) ?_; refine AL.r qb ?_; refine AL.rm ?_; refine AL.fk (d := 9) rfl (fun h9 => ?_) (fun h9 => ?_)
  ·refine AL.n ?_; (iterate 3 refine AL.rf ?_); refine AL.r qt ?_; refine AL.nil (AW.cond_t rfl (AW.g (AL.ra ?_))); refine AL.nil (AW.ret (r1t ?_)); exact nl15
  refine AL.n ?_; refine AL.ro (qa jBP) ?_; refine AL.ro (ql ag_3) ?_; refine AL.ro qb ?_; refine AL.r qf ?_; refine AL.nil (AW.cd rfl (fun h13 => ?_) (fun h13 => ?_))
  ·refine AW.g (AL.ra ?_); refine AL.nil (AW.ret (r1t ?_)); exact nl15
  refine AW.skip (AW.g (AL.r (jCE rfl jBS jFf rfl rfl) ?_)); refine AL.oq (AOpB.op (oA 1 jFf ?_)); refine AL.n ?_; refine AL.oq (oS jGN ?_); refine AL.b ?_; refine AL.nil (AW.seq (AW.g (AL.r (qa jAo) ?_))); refine AL.r (ql ag_3) ?_; refine AL.r qb ?_; refine AL.nil (AW.cd rfl (fun h17 => ?_) (fun h17 => ?_))
  ·(exfalso; first | omega | (simp_all; done))
  refine AW.skip (AW.seq (AW.g (AL.r (qa jCJ) ?_))); refine AL.r (ql ag_3) ?_; refine AL.r qb ?_; refine AL.rm ?_; refine AL.fk (d := 51) rfl (fun h51 => ?_) (fun h51 => ?_)
  ·refine AL.n ?_; (iterate 4 refine AL.rf ?_); refine AL.r qt ?_; refine AL.nil (AW.cond_t rfl (AW.g (AL.ra ?_))); refine AL.nil (AW.ret (r1t ?_)); exact nl15
  refine AL.n ?_; refine AL.ro (qa jCw) ?_; refine AL.ro (ql jCs) ?_; refine AL.ro (lN jB5) ?_; refine AL.ro qb ?_; refine AL.r qf ?_; refine AL.nil (AW.cd rfl (fun h56 => ?_) (fun h56 => ?_))
  ·refine AW.g (AL.ra ?_); refine AL.nil (AW.ret (r1t ?_)); exact nl15
  refine AW.skip (AW.seq (AW.g (AL.r (qa jAo) ?_))); refine AL.r (ql ag_3) ?_; refine AL.r qb ?_; refine AL.nil (AW.cd rfl (fun h59 => ?_) (fun h59 => ?_))
  ·(exfalso; first | omega | (simp_all; done))
  refine AW.skip (AW.seq (AW.g (AL.r (qa jCf) ?_))); refine AL.r (qN jDW) ?_; refine AL.r (qN jDW) ?_; refine AL.r (jCT rfl rfl rfl) ?_; refine AL.nil (AW.cd rfl (fun h78 => ?_) (fun h78 => ?_))
  ·refine AW.g (AL.ra ?_); refine AL.nil (AW.ret (r1t ?_)); exact nl15
  refine AW.skip (AW.seq (AW.g (AL.r (qa jAo) ?_))); refine AL.r (ql ag_3) ?_; refine AL.r qb ?_; refine AL.nil (AW.cd rfl (fun h81 => ?_) (fun h81 => ?_))
  ·(exfalso; first | omega | (simp_all; done))
  refine AW.skip (AW.seq (AW.g (AL.r (qa jAo) ?_))); refine AL.r (ql ag_3) ?_; refine AL.r qb ?_; refine AL.nil (AW.cd rfl (fun h114 => ?_) (fun h114 => ?_))
  ·refine AW.g (AL.ra ?_); refine AL.nil (AW.ret (r1t ?_)); exact nl15
  (exfalso; first | omega | (simp_all; done))
end Go.Proofs.YtlapcfnmmpbeeaaGreat
