/- A part of a proof. -/
import Derived.Test.YtlapcfnmmpbeeaaGreatPO33
import Derived.Test.YtlapcfnmmpbeeaaGreatPO38
set_option linter.unusedSimpArgs false
set_option linter.unusedVariables false
namespace Go.Proofs.YtlapcfnmmpbeeaaGreat
set_option maxRecDepth 100000
set_option maxRecDepth 100000
open Go.RowKit
def asks20 : List ThingD := [askT 3 0, askT 3 0, askT 0 0, askT 1 12, askT 6 5, askT 1 12, askT 5 0, askT 0 0, askT 2 0, askT 1 40, askT 6 60]
def jJg (i : Nat) : ThingD := asks20.getD i (askT 0 0)
section
variable (b : List UInt8) (f at0 : Int)
def st8 : Nat → Int
  | 0 => at0
  | k + 1 => (rd8 b (st8 k) f (jJg k)).2.1
def x8 (i : Nat) : ThingD := (rd8 b (st8 b f at0 i) f (jJg i)).1
def ok8 (i : Nat) : Bool := (rd8 b (st8 b f at0 i) f (jJg i)).2.2
def got8 (k : Nat) : List ThingD := (List.range k).map (x8 b f at0)
def dst8 : Nat → List TagD × Int × Bool
  | 0 => ([], st8 b f at0 11, true)
  | j + 1 => ((dst8 j).1 ++ [(rd8 b (dst8 j).2.1 f (askT 3 0)).1.t], (rd8 b (dst8 j).2.1 f (askT 3 0)).2.1, (dst8 j).2.2 && (rd8 b (dst8 j).2.1 f (askT 3 0)).2.2)
def dn8 : Nat := (x8 b f at0 10).n.toNat
def jHP : OpD := ⟨(x8 b f at0 0).t, (x8 b f at0 1).t, (x8 b f at0 2).n, (x8 b f at0 3).s, (x8 b f at0 4).n, (x8 b f at0 5).s, (x8 b f at0 6).r, (x8 b f at0 7).n, (x8 b f at0 8).f, (x8 b f at0 9).s, (dst8 b f at0 (dn8 b f at0)).1⟩
def jC7 : OpD × Int × Bool := if (List.range 11).all (ok8 b f at0) = true ∧ (dst8 b f at0 (dn8 b f at0)).2.2 = true ∧ jBs (jHP b f at0) = true then (jHP b f at0, (dst8 b f at0 (dn8 b f at0)).2.1, true) else (jDz, 0, false)
theorem jLp {i : Nat} (h : i < 11) : ¬ (jJg i).kind = 4 := by
  have : ∀ i, i < 11 → ¬ (jJg i).kind = 4 := by decide
  exact this i h
theorem jKR {b : List UInt8} {f at0 : Int} (h0 : 0 ≤ at0) : ∀ k, 0 ≤ st8 b f at0 k
  | 0 => h0
  | k + 1 => jA0 (jKR h0 k)
theorem jJs {b : List UInt8} {f at0 : Int} (h0 : 0 ≤ at0) : ∀ k, 0 ≤ (dst8 b f at0 k).2.1
  | 0 => jKR h0 11
  | k + 1 => jA0 (jJs h0 k)
theorem jH2 (b : List UInt8) (f at0 : Int) : ∀ k, (dst8 b f at0 k).1.length = k
  | 0 => rfl
  | k + 1 => by rw [dst8, List.length_append, jH2 b f at0 k]; rfl
theorem jHf {b : List UInt8} {f at0 : Int} {j : Nat} (h : (dst8 b f at0 j).2.2 = false) : ∀ k, (dst8 b f at0 (j + k)).2.2 = false
  | 0 => h
  | k + 1 => by rw [← Nat.add_assoc, dst8, jHf h k]; rfl
theorem jK3 (k : Nat) : (got8 b f at0 k).length = k := by simp [got8]
theorem jDU {k i : Nat} (h : i < k) : ((got8 b f at0 k).map ThingD.cs)[i]? = some [AI (x8 b f at0 i).kind, AI (x8 b f at0 i).n, AS (x8 b f at0 i).s, AB (x8 b f at0 i).f, AI (x8 b f at0 i).t.rep, AI (x8 b f at0 i).t.n, AI (x8 b f at0 i).v.a, AI (x8 b f at0 i).v.b, AI (x8 b f at0 i).v.c, AI (x8 b f at0 i).v.d, AI (x8 b f at0 i).v.e, AI (x8 b f at0 i).v.f, AI (x8 b f at0 i).r.scope, AS (x8 b f at0 i).r.group, AS (x8 b f at0 i).r.name, AI (x8 b f at0 i).most] := by
  unfold got8
  rw [List.getElem?_map, List.getElem?_map, List.getElem?_range h]; rfl
theorem got8_row {g T : Nat} (k : Nat) : TK.mk g (.own T 16 ((got8 b f at0 k).map ThingD.cs ++ [(x8 b f at0 k).cs])) = TK.mk g (.own T 16 ((got8 b f at0 (k + 1)).map ThingD.cs)) := by
  unfold got8
  rw [List.range_succ, List.map_append, List.map_append]; rfl
theorem jMX {g j : Nat} {b : List UInt8} {f at0 : Int} : TK.mk g (owM true 34 2 ((dst8 b f at0 j).1.map TagD.cs ++ [[AI (rd8 b (dst8 b f at0 j).2.1 f (askT 3 0)).1.t.rep, AI (rd8 b (dst8 b f at0 j).2.1 f (askT 3 0)).1.t.n]])) = TK.mk g (owM true 34 2 ((dst8 b f at0 (j + 1)).1.map TagD.cs)) := by
  rw [dst8, List.map_append]; rfl
theorem rget8_k (hb : b.length ≤ 1099511627776) (h0 : 0 ≤ at0) (k : Nat) (hk : k < 11) : AC Tryz.prog 118 [.sl (byA b), .sc (.int .i64 (st8 b f at0 k)), .sc (.int .i64 f), (asks20[k]'hk).av] (fun r => r = .s (.tu [(x8 b f at0 k).av, AI (st8 b f at0 (k + 1)), AB (ok8 b f at0 k)])) := by
  have e : asks20[k]'hk = jJg k := by unfold jJg; rw [List.getD_eq_getElem?_getD, List.getElem?_eq_getElem hk]; rfl
  rw [e]
  exact jEq b f hb (st8 b f at0 k) (jKR h0 k) (jJg k) (jLp hk)
theorem jGt {b : List UInt8} {f at0 : Int} (h : ¬ ((List.range 11).all (ok8 b f at0) = true ∧ (dst8 b f at0 (dn8 b f at0)).2.2 = true ∧ jBs (jHP b f at0) = true)) : jC7 b f at0 = (jDz, 0, false) := if_neg h
set_option maxHeartbeats 16000000 in
theorem roget_c (hb : b.length ≤ 1099511627776) (h0 : 0 ≤ at0) : AC Tryz.prog 120 [.sl (byA b), .sc (.int .i64 at0), .sc (.int .i64 f)] (fun r => r = .s (.tu [(jC7 b f at0).1.av, AI (jC7 b f at0).2.1, AB (jC7 b f at0).2.2])) := by
  refine AC.of' 131 10 Tryz.func120 rfl ?_; change AW _ _ _ _ [TK.mk 0 .off, TK.mk 0 .off, TK.mk 0 .off, TK.mk 0 .off, TK.mk 0 .off, TK.mk 0 .off, TK.mk 0 .off, TK.mk 0 .off, TK.mk 0 .off, TK.mk 0 .off]; refine AW.g (AL.oq (AOpB.op (oA 0 jDs ?_))); refine AL.n ?_; (iterate 2 refine AL.ra ?_); refine AL.nil (AW.g (AL.r (qB jAO jAq) ?_)); refine AL.r (qB jAO jAq) ?_; refine AL.r (qB jAO jAq) ?_; refine AL.r (qB jAO jAq) ?_; refine AL.r (qB jAO jAq) ?_; refine AL.r (qB jAO jAq) ?_; refine AL.r (qB jAO jAq) ?_; refine AL.r (qB jAO jAq) ?_; refine AL.r (qB jAO jAq) ?_; refine AL.r (qB jAO jAq) ?_; refine AL.r (qB jAO jAq) ?_; refine AL.oq (AOpB.op (jCa rfl jKC jAq rfl rfl ?_)); refine AL.n ?_; refine AL.ra ?_; refine AL.nil (AW.g (AL.oq (AOpB.op (jFi 2 rfl jKC jAq rfl rfl rfl ?_)))); refine AL.n ?_; refine AL.ra ?_; refine AL.nil (AW.seq (AW.g (AL.ra ?_))); refine AL.nil (AW.block (AW.loopM (ι := Nat × Nat) [7, 8, 12, 13, 14, 33, 34, 35, 36, 37, 38, 39, 40, 41, 42, 43, 44, 45, 46, 47, 48, 49, 50, 51, 52, 53, 54, 55, 56, 57, 58] (fun ⟨k, gL⟩ => [(11, AI (k : Int)), (1, AI (st8 b f at0 k)), (10, .ow 2 gL)]) [3, 4, 5] (fun ⟨k, gL⟩ => [(2, ⟨gL, .own 133 16 ((got8 b f at0 k).map ThingD.cs)⟩)]) (fun ⟨k, gL⟩ => k ≤ 11 ∧ ∀ i, i < k → ok8 b f at0 i = true) (fun ⟨k, gL⟩ => 11 - k) (0, 1) (⟨Nat.zero_le _, fun i hi => absurd hi (by omega)⟩) wk (by simp only [anys, upds, offs, List.set_cons_zero, List.set_cons_succ]; repeat (first | exact Sk.nil _ | refine Sk.same _ ?_ | refine Sk.scr _ (by decide) ?_ | refine Sk.eq _ (by rfl) ?_)) ?_))
  rintro ⟨k, gL⟩ gs hJ; refine AW.nm ?_; obtain ⟨hk, hok⟩ := hJ; refine AW.seq (AW.g ?_); (iterate 2 refine AL.rm ?_); refine AL.r (lN jEk) ?_; refine AL.r qb ?_; refine AL.nil (AW.cd rfl (fun h36 => ?_) (fun h36 => ?_))
  ·refine AW.skip (AW.seq (AW.block (AW.g ?_))); (iterate 5 refine AL.rm ?_); refine AL.r (jAc rfl jEk rfl rfl rfl (jAy (l := asks20) (f := ThingD.cs) (show k < 11 by omega)) rfl) ?_; refine AL.r (jAv rfl jAE rfl (Nat.le_of_ble_eq_true rfl) rfl) ?_; refine AL.cl (rget8_k b f at0 hb h0 k (by omega)) ?_; refine AL.n ?_; refine AL.rm ?_; refine AL.r qe ?_; refine AL.r qe ?_; refine AL.r qe ?_; refine AL.oq (AOpB.op (oA 3 jAq ?_)); refine AL.n ?_; refine AL.oq (oS jAA ?_); refine AL.b ?_; (iterate 2 refine AL.ra ?_); refine AL.nil (AW.seq (AW.g (AL.rm ?_))); refine AL.r qu ?_; refine AL.nil (AW.cd rfl (fun h52 => ?_) (fun h52 => ?_))
   ·refine AW.g (AL.r (qB jHZ jDs) ?_); refine AL.oq (oS jCc ?_); refine AL.b ?_; (iterate 2 refine AL.ra ?_); refine AL.nil (AW.ret ?_); refine r3 jAZ ?_; rw [jGt (fun h => by have := List.all_eq_true.1 h.1 k (List.mem_range.2 (by omega)); rw [h52] at this; cases this)]; rfl
   refine AW.skip ?_; change AW _ _ _ _ _; refine AW.seq ?_; refine AW.region ?_; refine AL.rm ?_; refine AL.r (qN jAE) ?_; refine AL.oq (AOpB.op (jCa rfl jKC jAq rfl rfl ?_)); refine AL.n ?_; refine AL.oq (jAz rfl jKC rfl rfl (jBQ rfl) (by simp only [List.length_map, jK3, List.length_cons, List.length_nil]; omega) (by simp only [List.length_map, jK3, List.length_cons, List.length_nil]; omega) ?_); refine AL.n ?_; refine AL.ra ?_; refine AL.nil ?_; change AW _ _ _ _ _; refine AW.region ?_; refine AL.rm ?_; refine AL.ra ?_; refine AL.nil ?_; change AW _ _ _ _ _; refine AW.region ?_; refine AL.rm ?_; refine AL.r qA ?_; refine AL.ra ?_; refine AL.nil ?_; refine ⟨⟨k + 1, gL + 1⟩, ?_, by first | omega | (simp only []; omega), ?_, ?_⟩
   ·exact ⟨by omega, jC0 hok (by grind)⟩
   ·exact wk
   simp only [anys, upds, offs, List.set_cons_zero, List.set_cons_succ]; repeat (first | exact Sk.nil _ | refine Sk.same _ ?_ | refine Sk.scr _ (by decide) ?_ | refine Sk.eq _ (by first | rfl | exact got8_row b f at0 k) ?_)
  refine AW.exit ?_; change AW _ _ _ _ _; refine AW.seq ?_; obtain rfl : k = 11 := (by omega); obtain ⟨hn1, hn2⟩ := jDK (hok 10 (by omega))
  have hx10 : (x8 b f at0 10).n = (rd8 b (st8 b f at0 10) f (askT 6 60)).1.n := rfl
  have hdn : ((dn8 b f at0 : Nat) : Int) = (x8 b f at0 10).n := Int.toNat_of_nonneg hn1
  refine AW.settle 10 rfl rfl (by first | rfl | exact jBe _ _ _ _) ?_; refine AW.nm ?_; apply AW.drawS (by kernel_rfl)
  ·refine ADA.r 0 rfl (ARdP.a (jAr rfl rfl)) rfl ?_; refine ADA.r 1 rfl (ARdP.a (jAK (n := 0) rfl jEk rfl rfl rfl (jDU b f at0 (by omega)) rfl)) rfl ?_; refine ADA.r 2 rfl (ARdP.a (jBM rfl jC9 rfl)) rfl ?_; refine ADA.r 3 rfl (jEF rfl jAN rfl (Nat.le_of_ble_eq_true rfl) rfl) rfl ?_; refine ADA.r 4 rfl (ARdP.a (jAr rfl rfl)) rfl ?_; refine ADA.r 5 rfl (ARdP.a (jAK (n := 1) rfl jEk rfl rfl rfl (jDU b f at0 (by omega)) rfl)) rfl ?_; refine ADA.r 6 rfl (ARdP.a (jBM rfl jC9 rfl)) rfl ?_; refine ADA.r 7 rfl (jEF rfl jAN rfl (Nat.le_of_ble_eq_true rfl) rfl) rfl ?_; refine ADA.r 8 rfl (ARdP.a (jAr rfl rfl)) rfl ?_; refine ADA.r 9 rfl (ARdP.a (jAK (n := 2) rfl jEk rfl rfl rfl (jDU b f at0 (by omega)) rfl)) rfl ?_; refine ADA.r 10 rfl (ARdP.a (jBM rfl jA8 rfl)) rfl ?_; refine ADA.r 11 rfl (jBb rfl ag_2 rfl rfl) rfl ?_
   refine ADA.r 12 rfl (ARdP.a (jAr rfl rfl)) rfl ?_; refine ADA.r 13 rfl (ARdP.a (jAK (n := 3) rfl jEk rfl rfl rfl (jDU b f at0 (by omega)) rfl)) rfl ?_; refine ADA.r 14 rfl (ARdP.a (jBM rfl jCF rfl)) rfl ?_; refine ADA.r 15 rfl (jBb rfl ag_9 rfl rfl) rfl ?_; refine ADA.r 16 rfl (ARdP.a (jAr rfl rfl)) rfl ?_; refine ADA.r 17 rfl (ARdP.a (jAK (n := 4) rfl jEk rfl rfl rfl (jDU b f at0 (by omega)) rfl)) rfl ?_; refine ADA.r 18 rfl (ARdP.a (jBM rfl jA8 rfl)) rfl ?_; refine ADA.r 19 rfl (jBb rfl ag_2 rfl rfl) rfl ?_; refine ADA.r 20 rfl (ARdP.a (jAr rfl rfl)) rfl ?_; refine ADA.r 21 rfl (ARdP.a (jAK (n := 5) rfl jEk rfl rfl rfl (jDU b f at0 (by omega)) rfl)) rfl ?_; refine ADA.r 22 rfl (ARdP.a (jBM rfl jCF rfl)) rfl ?_; refine ADA.r 23 rfl (jBb rfl ag_9 rfl rfl) rfl ?_
   refine ADA.r 24 rfl (ARdP.a (jAr rfl rfl)) rfl ?_; refine ADA.r 25 rfl (ARdP.a (jAK (n := 6) rfl jEk rfl rfl rfl (jDU b f at0 (by omega)) rfl)) rfl ?_; refine ADA.r 26 rfl (ARdP.a (jBM rfl jCH rfl)) rfl ?_; refine ADA.r 27 rfl (jEF rfl jBa rfl (Nat.le_of_ble_eq_true rfl) rfl) rfl ?_; refine ADA.r 28 rfl (ARdP.a (jAr rfl rfl)) rfl ?_; refine ADA.r 29 rfl (ARdP.a (jAK (n := 7) rfl jEk rfl rfl rfl (jDU b f at0 (by omega)) rfl)) rfl ?_; refine ADA.r 30 rfl (ARdP.a (jBM rfl jA8 rfl)) rfl ?_; refine ADA.r 31 rfl (jBb rfl ag_2 rfl rfl) rfl ?_; refine ADA.r 32 rfl (ARdP.a (jAr rfl rfl)) rfl ?_; refine ADA.r 33 rfl (ARdP.a (jAK (n := 8) rfl jEk rfl rfl rfl (jDU b f at0 (by omega)) rfl)) rfl ?_; refine ADA.r 34 rfl (ARdP.a (jBM rfl jFN rfl)) rfl ?_; refine ADA.r 35 rfl (jBb rfl ag_4 rfl rfl) rfl ?_
   refine ADA.r 36 rfl (ARdP.a (jAr rfl rfl)) rfl ?_; refine ADA.r 37 rfl (ARdP.a (jAK (n := 9) rfl jEk rfl rfl rfl (jDU b f at0 (by omega)) rfl)) rfl ?_; refine ADA.r 38 rfl (ARdP.a (jBM rfl jCF rfl)) rfl ?_; refine ADA.r 39 rfl (jBb rfl ag_9 rfl rfl) rfl ?_; refine ADA.r 40 rfl (ARdP.a (jA6 rfl jHZ jDs rfl rfl)) rfl ?_; refine ADA.b ?_; refine ADB.mv 41 rfl (AOpB.op (oA 6 jDs ?_)); refine ADB.n ?_; refine ADB.mv 42 rfl (oS jCc ?_); refine ADB.n ?_; refine ADB.done (by kernel_rfl) ?_; exact ⟨rfl, rfl⟩
  skip
  change AW _ _ _ _ _; refine AW.seq (AW.g (AL.nilbx 6 14 9 34 2 rfl rfl rfl (by decide) ?_)); refine AL.no ?_; refine AL.ra ?_; refine AL.nil (AW.block (AW.loopM (ι := Nat × Nat) [7, 8, 17, 18, 19, 100, 101, 102, 103, 104, 105, 106, 107, 108, 109, 110, 111, 112, 113, 114, 115, 116, 117, 118, 119, 120, 121, 122, 123, 124, 125, 126, 127] (fun ⟨j, g2⟩ => [(16, AI (j : Int)), (1, AI (dst8 b f at0 j).2.1)]) [7, 8] (fun ⟨j, g2⟩ => [(9, ⟨g2, owM true 34 2 ((dst8 b f at0 j).1.map TagD.cs)⟩), (6, ⟨1, .box 48 [AI (x8 b f at0 0).t.rep, AI (x8 b f at0 0).t.n, AI (x8 b f at0 1).t.rep, AI (x8 b f at0 1).t.n, AI (x8 b f at0 2).n, AS (x8 b f at0 3).s, AI (x8 b f at0 4).n, AS (x8 b f at0 5).s, AI (x8 b f at0 6).r.scope, AS (x8 b f at0 6).r.group, AS (x8 b f at0 6).r.name, AI (x8 b f at0 7).n, AB (x8 b f at0 8).f, AS (x8 b f at0 9).s, .ow 9 g2]⟩)]) (fun ⟨j, g2⟩ => j ≤ dn8 b f at0 ∧ (dst8 b f at0 j).2.2 = true) (fun ⟨j, g2⟩ => dn8 b f at0 - j) (0, 1) (⟨Nat.zero_le _, rfl⟩) wk (by simp only [anys, upds, offs, List.set_cons_zero, List.set_cons_succ]; repeat (first | exact Sk.nil _ | refine Sk.same _ ?_ | refine Sk.scr _ (by decide) ?_ | refine Sk.eq _ (by rfl) ?_)) ?_))
  rintro ⟨j, g2⟩ gs hJ; refine AW.nm ?_; obtain ⟨hj, hjo⟩ := hJ; refine AW.seq (AW.g ?_); (iterate 2 refine AL.rm ?_); refine AL.r (jAc (n := 10) rfl jEk rfl rfl rfl (jDU b f at0 (by omega)) rfl) ?_; refine AL.r (jCQ rfl jA8 rfl) ?_; refine AL.r (jAl rfl ag_2 rfl rfl) ?_; refine AL.r qb ?_; refine AL.nil (AW.cd rfl (fun h105 => ?_) (fun h105 => ?_))
  ·refine AW.skip (AW.seq (AW.block (AW.g ?_))); (iterate 3 refine AL.rm ?_); refine AL.r (qB jAO jAq) ?_; refine AL.cl (jEq b f hb (dst8 b f at0 j).2.1 (jJs h0 j) (askT 3 0) (by decide)) ?_; refine AL.n ?_; refine AL.rm ?_; refine AL.r qe ?_; refine AL.r qe ?_; refine AL.r qe ?_; refine AL.oq (AOpB.op (oA 7 jAq ?_)); refine AL.n ?_; refine AL.oq (oS jAA ?_); refine AL.b ?_; (iterate 2 refine AL.ra ?_); refine AL.nil (AW.seq (AW.g (AL.rm ?_))); refine AL.r qu ?_; refine AL.nil (AW.cd rfl (fun h118 => ?_) (fun h118 => ?_))
   ·refine AW.g (AL.r (qB jHZ jDs) ?_); refine AL.oq (oS jCc ?_); refine AL.b ?_; (iterate 2 refine AL.ra ?_); refine AL.nil (AW.ret ?_); refine r3 jAZ ?_; rw [jGt (fun h => by have h2 := h.2.1; have := jHf (b := b) (f := f) (at0 := at0) (j := j + 1) (by rw [dst8]; simp_all) (dn8 b f at0 - (j + 1)); rw [show j + 1 + (dn8 b f at0 - (j + 1)) = dn8 b f at0 by omega] at this; rw [this] at h2; cases h2)]; rfl
   refine AW.skip ?_; change AW _ _ _ _ _; refine AW.seq ?_; refine AW.region ?_; refine AL.r (qa jBh) ?_; refine AL.r (ql jCs) ?_; refine AL.r (qa jC9) ?_; refine AL.r (qN jAN) ?_; refine AL.oq (AOpB.op (jCa rfl jGl jDZ rfl rfl ?_)); refine AL.n ?_; refine AL.oq (jBy rfl jGl rfl rfl (jBQ rfl) (by simp only [List.length_map, jH2, List.length_cons, List.length_nil]; omega) (by simp only [List.length_map, jH2, List.length_cons, List.length_nil]; omega) ?_); refine AL.n ?_; refine AL.r (qa jBh) ?_; refine AL.oq (jCZ rfl rfl rfl rfl rfl jIe ?_); refine AL.b ?_; refine AL.nil ?_; change AW _ _ _ _ _; refine AW.region ?_; refine AL.rm ?_; refine AL.ra ?_; refine AL.nil ?_; change AW _ _ _ _ _; refine AW.region ?_; refine AL.rm ?_; refine AL.r qA ?_; refine AL.ra ?_; refine AL.nil ?_; refine ⟨⟨j + 1, g2 + 1⟩, ?_, by first | omega | (simp only []; omega), ?_, ?_⟩
   ·exact ⟨by omega, by rw [dst8, hjo]; simpa using h118⟩
   ·exact wk
   simp only [anys, upds, offs, List.set_cons_zero, List.set_cons_succ]; repeat (first | exact Sk.nil _ | refine Sk.same _ ?_ | refine Sk.scr _ (by decide) ?_ | refine Sk.eq _ (by first | rfl | exact jMX) ?_)
  refine AW.exit ?_; change AW _ _ _ _ _; refine AW.seq (AW.g ?_); obtain rfl : j = dn8 b f at0 := (by omega); refine AL.settlebx 6 14 rfl rfl rfl (by first | rfl | exact jBe _ _ _ _) ?_; refine AL.no ?_; refine AL.r (qN jAZ) ?_; refine AL.cl (jKr (jHP b f at0)) ?_; refine AL.n ?_; refine AL.r qu ?_; refine AL.nil (AW.cd rfl (fun h130 => ?_) (fun h130 => ?_))
  ·refine AW.g (AL.r (qB jHZ jDs) ?_); refine AL.oq (oS jCc ?_); refine AL.b ?_; (iterate 2 refine AL.ra ?_); refine AL.nil (AW.ret ?_); refine r3 jAZ ?_; rw [jGt (fun h => by have := h.2.2; simp_all)]; rfl
  refine AW.skip ?_; change AW _ _ _ _ _; refine AW.seq ?_; refine AW.region ?_; refine AL.r (qN jAZ) ?_; refine AL.rm ?_; refine AL.oq (oS jCc ?_); refine AL.b ?_; (iterate 2 refine AL.ra ?_); refine AL.nil ?_; change AW _ _ _ _ _; refine AW.ret ?_; change ResA _ _ _ _ _; refine r3 jAZ ?_; rw [jC7, if_pos ⟨List.all_eq_true.2 fun i hi => hok i (List.mem_range.1 hi), hjo, by assumption⟩]; rfl
end
end Go.Proofs.YtlapcfnmmpbeeaaGreat
