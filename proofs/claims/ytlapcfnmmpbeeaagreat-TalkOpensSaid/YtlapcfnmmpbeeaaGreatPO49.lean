/- A part of a proof. -/
import Derived.Test.YtlapcfnmmpbeeaaGreatPO48
set_option linter.unusedSimpArgs false
set_option linter.unusedVariables false
namespace Go.Proofs.YtlapcfnmmpbeeaaGreat
set_option maxRecDepth 100000
set_option maxRecDepth 100000
open Go.RowKit
theorem jJm {α : Type} {get : RdrD → α × RdrD} {f : α → List AV} {g T n : Nat} {r : RdrD} {j : Nat} : TK.mk g (owM true T n ((lstR get r j).1.map f ++ [f (get (lstR get r j).2).1])) = TK.mk g (owM true T n ((lstR get r (j + 1)).1.map f)) := by
  rw [lstR, List.map_append]; rfl
theorem oget_y (g : Nat) (r : RdrD) (h : r.Ok) : ACo Tryz.prog 64 [.bx 0 g 0] (RdrT g r) (fun y os' => y = .ag [AI ((getO r).1).id.rep, AI ((getO r).1).id.n, AI ((getO r).1).schema.rep, AI ((getO r).1).schema.n, AI ((getO r).1).time, AS ((getO r).1).cart, AI ((getO r).1).kind, AS ((getO r).1).item, AI ((getO r).1).at_.scope, AS ((getO r).1).at_.group, AS ((getO r).1).at_.name, AI ((getO r).1).delta, AB ((getO r).1).has, AS ((getO r).1).text, .sl (((getO r).1).drops.map TagD.cs)] ∧ os' = RdrT g (getO r).2) := oget_c g r h
set_option maxHeartbeats 4000000 in
theorem taket_c (g : Nat) (r : RdrD) (h : r.Ok) : ACo Tryz.prog 59 [.bx 0 g 0, .sc (.int .i64 40), .sc (.func (.func 60) #[] #[])] (RdrT g r) (fun y os' => ∃ l r', y = .sl (l.map TagD.cs) ∧ os' = RdrT g r' ∧ r'.Ok ∧ badP r' = badP (jB3 jBo r 40).2 ∧ (badP r' = false → l = (jB3 jBo r 40).1 ∧ r' = (jB3 jBo r 40).2)) := by
  obtain ⟨hc1, hc2⟩ := jE2 r (most := 40) (by omega)
  have hqn : ((jCV r 40 : Nat) : Int) = (jAJ r 40).1 := Int.toNat_of_nonneg hc1
  refine ACo.of' (st0 := [⟨g, .box 138 [.sl (byA r.b), .sc (.int .i64 r.f), .sc (.int .i64 r.at_), .sc (.bool r.bad)]⟩, TK.mk 0 .off, TK.mk 0 .off, TK.mk 0 .off, TK.mk 0 .off]) 22 4 Tryz.func59 rfl 1 ?_; refine AW.g (AL.ra ?_); refine AL.nil (AW.g (AL.ra ?_)); refine AL.nil (AW.seq (AW.g (AL.nil_own 7 4 34 2 rfl rfl ?_))); refine AL.n ?_; (iterate 2 refine AL.rm ?_); refine AL.oq (jAi (jEZ g r h 40) [0] ?_); rintro y os' ⟨rfl, rfl⟩; refine AL.noR ?_; refine AL.rm ?_; refine AL.nil (AW.block (AW.loopM (ι := Nat × Nat) [6, 8, 13, 14, 15, 16, 17, 18, 19, 20, 21, 22, 23] (fun ⟨j, gL⟩ => [(12, AI (j : Int)), (7, .ow 4 gL)]) [1, 2, 3] (fun ⟨j, gL⟩ => [(4, ⟨gL, owM true 34 2 ((lstR jBo (jAJ r 40).2 j).1.map TagD.cs)⟩), (0, ⟨g, .box 138 [.sl (byA (lstR jBo (jAJ r 40).2 j).2.b), .sc (.int .i64 (lstR jBo (jAJ r 40).2 j).2.f), .sc (.int .i64 (lstR jBo (jAJ r 40).2 j).2.at_), .sc (.bool (lstR jBo (jAJ r 40).2 j).2.bad)]⟩)]) (fun ⟨j, gL⟩ => j ≤ jCV r 40) (fun ⟨j, gL⟩ => jCV r 40 - j) ⟨0, 1⟩ (Nat.zero_le _) wk (by simp only [anys, upds, offs, List.set_cons_zero, List.set_cons_succ]; repeat (first | exact Sk.nil _ | refine Sk.same _ ?_ | refine Sk.scr _ (by decide) ?_ | refine Sk.eq _ (by rfl) ?_)) ?_))
  rintro ⟨j, gL⟩ gs hJ; refine AW.nm ?_
  have hto := jEs jJl (h.count 40).ok j
  have hln := jGv (get := jBo) (jAJ r 40).2 j
  refine AW.g (AL.r qb ?_); refine AL.nil (AW.seq (AW.cd rfl (fun h13 => ?_) (fun h13 => ?_)))
  ·refine AW.skip (AW.seq (AW.block (AW.g ?_))); (iterate 2 refine AL.rm ?_); refine AL.oq (jMj (jJo g (lstR jBo (jAJ r 40).2 j).2 hto.ok) (jLQ rfl rfl (by kernel_rfl)) [0] ?_); rintro y os' ⟨rfl, rfl⟩; refine AL.noR ?_; refine AL.oq (AOpB.op (oA 1 jDZ ?_)); refine AL.no ?_; refine AL.oq (oS jF8 ?_); refine AL.no ?_; refine AL.nil (AW.seq (AW.g (AL.rm ?_))); refine AL.oq (jAi (jDB g (lstR jBo (jAJ r 40).2 (j + 1)).2) [0] ?_); rintro y os' ⟨rfl, rfl⟩; refine AL.noR ?_; refine AL.nil (AW.cd rfl (fun h18 => ?_) (fun h18 => ?_))
   ·refine AW.g (AL.ra ?_); refine AL.nil (AW.ret ?_)
    repeat with_reducible first | refine jAp ?_ | refine jAe ?_
    with_reducible first | refine jAw ?_ | refine jAf ?_
    refine jAY rfl (ResV.tmp rfl) rfl ?_
    have hb9 : badP (jB3 jBo r 40).2 = true := (by have := jEY (get := jBo) (fun r => jDO) (r := (jAJ r 40).2) (k := j + 1) (by assumption) (jCV r 40 - (j + 1)); rwa [show j + 1 + (jCV r 40 - (j + 1)) = jCV r 40 by omega] at this)
    exact ⟨[], _, rfl, rfl, (jEs jJl (h.count 40).ok (j + 1)).ok, (by rw [hb9]; assumption), fun hh => by simp_all⟩
   refine AW.skip ?_; change AW _ _ _ _ _; refine AW.region ?_; refine AL.rm ?_; refine AL.r (qN jAN) ?_; refine AL.oq (AOpB.op (jCa rfl jGl jDZ rfl rfl ?_)); refine AL.no ?_; refine AL.oq (jBy rfl jGl rfl rfl (jBQ rfl) (by simp only [List.length_map, List.length_cons, List.length_nil]; omega) (by simp only [List.length_map, List.length_cons, List.length_nil]; omega) ?_); refine AL.no ?_; refine AL.ra ?_; refine AL.nil ?_; change AW _ _ _ _ _; refine AW.region ?_; refine AL.r qA ?_; refine AL.rm ?_; refine AL.nil ?_; refine ⟨⟨j + 1, gL + 1⟩, ?_, by first | omega | (simp only []; omega), ?_, ?_⟩
   ·show j + 1 ≤ jCV r 40; omega
   ·exact wk
   simp only [anys, upds, offs, List.set_cons_zero, List.set_cons_succ]; repeat (first | exact Sk.nil _ | refine Sk.same _ ?_ | refine Sk.scr _ (by decide) ?_ | refine Sk.eq _ (by first | rfl | exact jJm (f := TagD.cs)) ?_)
  refine AW.exit ?_; change AW _ _ _ _ _; refine AW.g (AL.rm ?_); refine AL.ra ?_; refine AL.nil (AW.ret ?_)
  repeat with_reducible first | refine jAp ?_ | refine jAe ?_
  with_reducible first | refine jAw ?_ | refine jAf ?_
  refine jAY rfl (ResV.tmp rfl) (by first | exact jGx (by decide) rfl | exact jGw (by decide) rfl | exact jGp (by decide) rfl | exact jFS (by decide) rfl | exact resO_setN (by decide) rfl) ?_; obtain rfl : j = jCV r 40 := (by omega); exact ⟨_, _, rfl, rfl, hto.ok, rfl, fun _ => ⟨rfl, rfl⟩⟩
set_option maxHeartbeats 4000000 in
theorem takee_c (g : Nat) (r : RdrD) (h : r.Ok) : ACo Tryz.prog 61 [.bx 0 g 0, .sc (.int .i64 6), .sc (.func (.func 62) #[] #[])] (RdrT g r) (fun y os' => ∃ l r', y = .sl (l.map EdgeD.cs) ∧ os' = RdrT g r' ∧ r'.Ok ∧ badP r' = badP (jB3 getE r 6).2 ∧ (badP r' = false → l = (jB3 getE r 6).1 ∧ r' = (jB3 getE r 6).2)) := by
  obtain ⟨hc1, hc2⟩ := jE2 r (most := 6) (by omega)
  have hqn : ((jCV r 6 : Nat) : Int) = (jAJ r 6).1 := Int.toNat_of_nonneg hc1
  refine ACo.of' (st0 := [⟨g, .box 138 [.sl (byA r.b), .sc (.int .i64 r.f), .sc (.int .i64 r.at_), .sc (.bool r.bad)]⟩, TK.mk 0 .off, TK.mk 0 .off, TK.mk 0 .off, TK.mk 0 .off]) 22 4 Tryz.func61 rfl 1 ?_; refine AW.g (AL.ra ?_); refine AL.nil (AW.g (AL.ra ?_)); refine AL.nil (AW.seq (AW.g (AL.nil_own 7 4 44 20 rfl rfl ?_))); refine AL.n ?_; (iterate 2 refine AL.rm ?_); refine AL.oq (jAi (jEZ g r h 6) [0] ?_); rintro y os' ⟨rfl, rfl⟩; refine AL.noR ?_; refine AL.rm ?_; refine AL.nil (AW.block (AW.loopM (ι := Nat × Nat) [6, 8, 13, 14, 15, 16, 17, 18, 19, 20, 21, 22, 23] (fun ⟨j, gL⟩ => [(12, AI (j : Int)), (7, .ow 4 gL)]) [1, 2, 3] (fun ⟨j, gL⟩ => [(4, ⟨gL, owM true 44 20 ((lstR getE (jAJ r 6).2 j).1.map EdgeD.cs)⟩), (0, ⟨g, .box 138 [.sl (byA (lstR getE (jAJ r 6).2 j).2.b), .sc (.int .i64 (lstR getE (jAJ r 6).2 j).2.f), .sc (.int .i64 (lstR getE (jAJ r 6).2 j).2.at_), .sc (.bool (lstR getE (jAJ r 6).2 j).2.bad)]⟩)]) (fun ⟨j, gL⟩ => j ≤ jCV r 6) (fun ⟨j, gL⟩ => jCV r 6 - j) ⟨0, 1⟩ (Nat.zero_le _) wk (by simp only [anys, upds, offs, List.set_cons_zero, List.set_cons_succ]; repeat (first | exact Sk.nil _ | refine Sk.same _ ?_ | refine Sk.scr _ (by decide) ?_ | refine Sk.eq _ (by rfl) ?_)) ?_))
  rintro ⟨j, gL⟩ gs hJ; refine AW.nm ?_
  have hto := jEs (fun _ => jJY) (h.count 6).ok j
  have hln := jGv (get := getE) (jAJ r 6).2 j
  refine AW.g (AL.r qb ?_); refine AL.nil (AW.seq (AW.cd rfl (fun h13 => ?_) (fun h13 => ?_)))
  ·refine AW.skip (AW.seq (AW.block (AW.g ?_))); (iterate 2 refine AL.rm ?_); refine AL.oq (jMj (eget_c g (lstR getE (jAJ r 6).2 j).2 hto.ok) (jLQ rfl rfl (by kernel_rfl)) [0] ?_); rintro y os' ⟨rfl, rfl⟩; refine AL.noR ?_; refine AL.oq (AOpB.op (oA 1 jBv ?_)); refine AL.no ?_; refine AL.oq (oS jFJ ?_); refine AL.no ?_; refine AL.nil (AW.seq (AW.g (AL.rm ?_))); refine AL.oq (jAi (jDB g (lstR getE (jAJ r 6).2 (j + 1)).2) [0] ?_); rintro y os' ⟨rfl, rfl⟩; refine AL.noR ?_; refine AL.nil (AW.cd rfl (fun h18 => ?_) (fun h18 => ?_))
   ·refine AW.g (AL.ra ?_); refine AL.nil (AW.ret ?_)
    repeat with_reducible first | refine jAp ?_ | refine jAe ?_
    with_reducible first | refine jAw ?_ | refine jAf ?_
    refine jAY rfl (ResV.tmp rfl) rfl ?_
    have hb9 : badP (jB3 getE r 6).2 = true := (by have := jEY (get := getE) (fun r => jHy) (r := (jAJ r 6).2) (k := j + 1) (by assumption) (jCV r 6 - (j + 1)); rwa [show j + 1 + (jCV r 6 - (j + 1)) = jCV r 6 by omega] at this)
    exact ⟨[], _, rfl, rfl, (jEs (fun _ => jJY) (h.count 6).ok (j + 1)).ok, (by rw [hb9]; assumption), fun hh => by simp_all⟩
   refine AW.skip ?_; change AW _ _ _ _ _; refine AW.region ?_; refine AL.rm ?_; refine AL.r (qN jDJ) ?_; refine AL.oq (AOpB.op (jCa rfl ap_25 jBv rfl rfl ?_)); refine AL.no ?_; refine AL.oq (jBy rfl ap_25 rfl rfl (jBQ rfl) (by simp only [List.length_map, List.length_cons, List.length_nil]; omega) (by simp only [List.length_map, List.length_cons, List.length_nil]; omega) ?_); refine AL.no ?_; refine AL.ra ?_; refine AL.nil ?_; change AW _ _ _ _ _; refine AW.region ?_; refine AL.r qA ?_; refine AL.rm ?_; refine AL.nil ?_; refine ⟨⟨j + 1, gL + 1⟩, ?_, by first | omega | (simp only []; omega), ?_, ?_⟩
   ·show j + 1 ≤ jCV r 6; omega
   ·exact wk
   simp only [anys, upds, offs, List.set_cons_zero, List.set_cons_succ]; repeat (first | exact Sk.nil _ | refine Sk.same _ ?_ | refine Sk.scr _ (by decide) ?_ | refine Sk.eq _ (by first | rfl | exact jJm (f := EdgeD.cs)) ?_)
  refine AW.exit ?_; change AW _ _ _ _ _; refine AW.g (AL.rm ?_); refine AL.ra ?_; refine AL.nil (AW.ret ?_)
  repeat with_reducible first | refine jAp ?_ | refine jAe ?_
  with_reducible first | refine jAw ?_ | refine jAf ?_
  refine jAY rfl (ResV.tmp rfl) (by first | exact jGx (by decide) rfl | exact jGw (by decide) rfl | exact jGp (by decide) rfl | exact jFS (by decide) rfl | exact resO_setN (by decide) rfl) ?_; obtain rfl : j = jCV r 6 := (by omega); exact ⟨_, _, rfl, rfl, hto.ok, rfl, fun _ => ⟨rfl, rfl⟩⟩
set_option maxHeartbeats 4000000 in
theorem takeo_c (g : Nat) (r : RdrD) (h : r.Ok) : ACo Tryz.prog 63 [.bx 0 g 0, .sc (.int .i64 6), .sc (.func (.func 64) #[] #[])] (RdrT g r) (fun y os' => ∃ l r', y = .sl (l.map OpD.cs) ∧ os' = RdrT g r' ∧ r'.Ok ∧ badP r' = badP (jB3 getO r 6).2 ∧ (badP r' = false → l = (jB3 getO r 6).1 ∧ r' = (jB3 getO r 6).2)) := by
  obtain ⟨hc1, hc2⟩ := jE2 r (most := 6) (by omega)
  have hqn : ((jCV r 6 : Nat) : Int) = (jAJ r 6).1 := Int.toNat_of_nonneg hc1
  refine ACo.of' (st0 := [⟨g, .box 138 [.sl (byA r.b), .sc (.int .i64 r.f), .sc (.int .i64 r.at_), .sc (.bool r.bad)]⟩, TK.mk 0 .off, TK.mk 0 .off, TK.mk 0 .off, TK.mk 0 .off]) 22 4 Tryz.func63 rfl 1 ?_; refine AW.g (AL.ra ?_); refine AL.nil (AW.g (AL.ra ?_)); refine AL.nil (AW.seq (AW.g (AL.nil_own 7 4 48 15 rfl rfl ?_))); refine AL.n ?_; (iterate 2 refine AL.rm ?_); refine AL.oq (jAi (jEZ g r h 6) [0] ?_); rintro y os' ⟨rfl, rfl⟩; refine AL.noR ?_; refine AL.rm ?_; refine AL.nil (AW.block (AW.loopM (ι := Nat × Nat) [6, 8, 13, 14, 15, 16, 17, 18, 19, 20, 21, 22, 23] (fun ⟨j, gL⟩ => [(12, AI (j : Int)), (7, .ow 4 gL)]) [1, 2, 3] (fun ⟨j, gL⟩ => [(4, ⟨gL, owM true 48 15 ((lstR getO (jAJ r 6).2 j).1.map OpD.cs)⟩), (0, ⟨g, .box 138 [.sl (byA (lstR getO (jAJ r 6).2 j).2.b), .sc (.int .i64 (lstR getO (jAJ r 6).2 j).2.f), .sc (.int .i64 (lstR getO (jAJ r 6).2 j).2.at_), .sc (.bool (lstR getO (jAJ r 6).2 j).2.bad)]⟩)]) (fun ⟨j, gL⟩ => j ≤ jCV r 6) (fun ⟨j, gL⟩ => jCV r 6 - j) ⟨0, 1⟩ (Nat.zero_le _) wk (by simp only [anys, upds, offs, List.set_cons_zero, List.set_cons_succ]; repeat (first | exact Sk.nil _ | refine Sk.same _ ?_ | refine Sk.scr _ (by decide) ?_ | refine Sk.eq _ (by rfl) ?_)) ?_))
  rintro ⟨j, gL⟩ gs hJ; refine AW.nm ?_
  have hto := jEs (fun _ => jHM) (h.count 6).ok j
  have hln := jGv (get := getO) (jAJ r 6).2 j
  refine AW.g (AL.r qb ?_); refine AL.nil (AW.seq (AW.cd rfl (fun h13 => ?_) (fun h13 => ?_)))
  ·refine AW.skip (AW.seq (AW.block (AW.g ?_))); (iterate 2 refine AL.rm ?_); refine AL.oq (jMj (oget_y g (lstR getO (jAJ r 6).2 j).2 hto.ok) (jLQ rfl rfl (by kernel_rfl)) [0] ?_); rintro y os' ⟨rfl, rfl⟩; refine AL.noR ?_; refine AL.oq (AOpB.op (oA 1 jDs ?_)); refine AL.no ?_; refine AL.oq (oS jCc ?_); refine AL.no ?_; refine AL.nil (AW.seq (AW.g (AL.rm ?_))); refine AL.oq (jAi (jDB g (lstR getO (jAJ r 6).2 (j + 1)).2) [0] ?_); rintro y os' ⟨rfl, rfl⟩; refine AL.noR ?_; refine AL.nil (AW.cd rfl (fun h18 => ?_) (fun h18 => ?_))
   ·refine AW.g (AL.ra ?_); refine AL.nil (AW.ret ?_)
    repeat with_reducible first | refine jAp ?_ | refine jAe ?_
    with_reducible first | refine jAw ?_ | refine jAf ?_
    refine jAY rfl (ResV.tmp rfl) rfl ?_
    have hb9 : badP (jB3 getO r 6).2 = true := (by have := jEY (get := getO) (fun r => jHU) (r := (jAJ r 6).2) (k := j + 1) (by assumption) (jCV r 6 - (j + 1)); rwa [show j + 1 + (jCV r 6 - (j + 1)) = jCV r 6 by omega] at this)
    exact ⟨[], _, rfl, rfl, (jEs (fun _ => jHM) (h.count 6).ok (j + 1)).ok, (by rw [hb9]; assumption), fun hh => by simp_all⟩
   refine AW.skip ?_; change AW _ _ _ _ _; refine AW.region ?_; refine AL.rm ?_; refine AL.r (qN jAZ) ?_; refine AL.oq (AOpB.op (jCa rfl ap_26 jDs rfl rfl ?_)); refine AL.no ?_; refine AL.oq (jBy rfl ap_26 rfl rfl (jBQ rfl) (by simp only [List.length_map, List.length_cons, List.length_nil]; omega) (by simp only [List.length_map, List.length_cons, List.length_nil]; omega) ?_); refine AL.no ?_; refine AL.ra ?_; refine AL.nil ?_; change AW _ _ _ _ _; refine AW.region ?_; refine AL.r qA ?_; refine AL.rm ?_; refine AL.nil ?_; refine ⟨⟨j + 1, gL + 1⟩, ?_, by first | omega | (simp only []; omega), ?_, ?_⟩
   ·show j + 1 ≤ jCV r 6; omega
   ·exact wk
   simp only [anys, upds, offs, List.set_cons_zero, List.set_cons_succ]; repeat (first | exact Sk.nil _ | refine Sk.same _ ?_ | refine Sk.scr _ (by decide) ?_ | refine Sk.eq _ (by first | rfl | exact jJm (f := OpD.cs)) ?_)
  refine AW.exit ?_; change AW _ _ _ _ _; refine AW.g (AL.rm ?_); refine AL.ra ?_; refine AL.nil (AW.ret ?_)
  repeat with_reducible first | refine jAp ?_ | refine jAe ?_
  with_reducible first | refine jAw ?_ | refine jAf ?_
  refine jAY rfl (ResV.tmp rfl) (by first | exact jGx (by decide) rfl | exact jGw (by decide) rfl | exact jGp (by decide) rfl | exact jFS (by decide) rfl | exact resO_setN (by decide) rfl) ?_; obtain rfl : j = jCV r 6 := (by omega); exact ⟨_, _, rfl, rfl, hto.ok, rfl, fun _ => ⟨rfl, rfl⟩⟩
def zN : NoteD := ⟨0, 0, 0, z6, [], [], []⟩
abbrev nR (rest : List UInt8) (c : UInt8) : RdrD := newR rest (c.toNat : Int)
def jA1 (r : RdrD) (f : Int) : NoteD × Int × Int := if okNt r then (jBD r, f, 0) else (zN, 0, 5)
theorem jF3 {r : RdrD} {f : Int} {n : NoteD} (h : okNt r = true) (e : jBD r = n) : jA1 r f = (n, f, 0) := by unfold jA1; rw [if_pos h, e]
theorem jDT {r : RdrD} {f : Int} (h : okNt r = false) : jA1 r f = (zN, 0, 5) := by unfold jA1; rw [h, if_neg (by decide)]
section
variable {r r' : RdrD}
theorem end_bad (h : badP r' = true) : endP r' = 8 := by unfold endP; rw [if_pos (.inl h)]
theorem jIU {n : NoteD} (hb : badP r' = badP (endR r)) (hl : badP r' = false → jBD r = n ∧ r' = endR r) : okNt r = (decide (endP r' = 0) && jBn n) ∧ (okNt r = true → jBD r = n) := by
  cases e : badP r' with
  | true =>
    have h1 : okNt r = false := jDG (hb ▸ e)
    rw [h1, end_bad e]
    exact ⟨rfl, fun h => by cases h⟩
  | false =>
    obtain ⟨h1, h2⟩ := hl e
    refine ⟨?_, fun _ => h1⟩
    unfold okNt
    rw [h1, ← h2]
theorem okN_1 {l : List TagD} (hk : nk r = 1) (hb : badP r' = badP (jB3 jBo (o4 r) 40).2) (hl : badP r' = false → l = (jB3 jBo (o4 r) 40).1 ∧ r' = (jB3 jBo (o4 r) 40).2) : okNt r = (decide (endP r' = 0) && jBn ⟨1, nfr r, smP (numP (o2 r)).1, (jCp (o3 r)).1, l, [], []⟩) ∧ (okNt r = true → jBD r = ⟨1, nfr r, smP (numP (o2 r)).1, (jCp (o3 r)).1, l, [], []⟩) := by
  have he : endR r = (jB3 jBo (o4 r) 40).2 := by unfold endR; rw [if_pos hk]
  exact jIU (by rw [he]; exact hb) fun h => by
    obtain ⟨h1, h2⟩ := hl h
    exact ⟨by unfold jBD; rw [if_pos hk, hk, h1], by rw [he]; exact h2⟩
theorem okN_2 {l : List EdgeD} (hk : nk r = 2) (hb : badP r' = badP (jB3 getE (o2 r) 6).2) (hl : badP r' = false → l = (jB3 getE (o2 r) 6).1 ∧ r' = (jB3 getE (o2 r) 6).2) : okNt r = (decide (endP r' = 0) && jBn ⟨2, nfr r, 0, z6, [], l, []⟩) ∧ (okNt r = true → jBD r = ⟨2, nfr r, 0, z6, [], l, []⟩) := by
  have he : endR r = (jB3 getE (o2 r) 6).2 := by unfold endR; rw [if_neg (by omega), if_pos hk]
  exact jIU (by rw [he]; exact hb) fun h => by
    obtain ⟨h1, h2⟩ := hl h
    exact ⟨by unfold jBD; rw [if_neg (by omega), if_pos hk, hk, h1], by rw [he]; exact h2⟩
theorem okN_3 {l : List OpD} (hk : nk r = 3) (hb : badP r' = badP (jB3 getO (o2 r) 6).2) (hl : badP r' = false → l = (jB3 getO (o2 r) 6).1 ∧ r' = (jB3 getO (o2 r) 6).2) : okNt r = (decide (endP r' = 0) && jBn ⟨3, nfr r, 0, z6, [], [], l⟩) ∧ (okNt r = true → jBD r = ⟨3, nfr r, 0, z6, [], [], l⟩) := by
  have he : endR r = (jB3 getO (o2 r) 6).2 := by unfold endR; rw [if_neg (by omega), if_neg (by omega), if_pos hk]
  exact jIU (by rw [he]; exact hb) fun h => by
    obtain ⟨h1, h2⟩ := hl h
    exact ⟨by unfold jBD; rw [if_neg (by omega), if_neg (by omega), if_pos hk, hk, h1], by rw [he]; exact h2⟩
theorem okN_4 (hk : nk r = 4) : okNt r = (decide (endP (jCp (o2 r)).2 = 0) && jBn ⟨4, nfr r, 0, (jCp (o2 r)).1, [], [], []⟩) ∧ (okNt r = true → jBD r = ⟨4, nfr r, 0, (jCp (o2 r)).1, [], [], []⟩) := by
  have he : endR r = (jCp (o2 r)).2 := by unfold endR; rw [if_neg (by omega), if_neg (by omega), if_neg (by omega), if_pos hk]
  exact jIU (by rw [he]) fun h => ⟨by unfold jBD; rw [if_neg (by omega), if_neg (by omega), if_neg (by omega), if_pos hk, hk], by rw [he]⟩
theorem okN_o (h1 : ¬ nk r = 1) (h2 : ¬ nk r = 2) (h3 : ¬ nk r = 3) (h4 : ¬ nk r = 4) : okNt r = (decide (endP (o2 r) = 0) && jBn ⟨nk r, nfr r, 0, z6, [], [], []⟩) ∧ (okNt r = true → jBD r = ⟨nk r, nfr r, 0, z6, [], [], []⟩) := by
  have he : endR r = o2 r := by unfold endR; rw [if_neg h1, if_neg h2, if_neg h3, if_neg h4]
  exact jIU (by rw [he]) fun h => ⟨by unfold jBD; rw [if_neg h1, if_neg h2, if_neg h3, if_neg h4], by rw [he]⟩
theorem jJT (h : r.Ok) : r.Of (o1 r) := h.num
theorem jI8 (h : r.Ok) : r.Of (o2 r) := (jJT h).trans (jJT h).ok.num
theorem o3_ok (h : r.Ok) : r.Of (o3 r) := (jI8 h).trans (jI8 h).ok.num
theorem o4_ok (h : r.Ok) : r.Of (o4 r) := (o3_ok h).trans (jHN (o3_ok h).ok)
end
theorem jGM (g : Nat) (r : RdrD) (h : r.Ok) (z : Int) (hk : nk r = z) : ACo Tryz.prog 57 [.bx 0 g 0] (RdrT g r) (fun y os' => y = AI z ∧ os' = RdrT g (o1 r)) := by
  subst hk; exact jFx g r h
section
variable (t : Nat → Nat) (l : List UInt8) (c : UInt8) (rest : List UInt8) (hrl : rest.length ≤ 60000) (hok : okF (c.toNat : Int) = true) (hg : AC Tryz.prog 55 [.sl (byA l), .sc (.int .i64 0), .sc (tabV t)] (fun r => r = .s (.tu [.sl (byA (c :: rest)), .sc (.int .i64 (l.length : Int)), .sc (.int .i64 0)])))
include hrl hok hg
set_option maxHeartbeats 4000000 in
theorem open_1 (hk : nk (nR rest c) = 1) : AC Tryz.prog 15 [.sc (tabV t), .sl (byA l)] (fun r => r = .s (.tu [.ag [AI ((jA1 (nR rest c) (c.toNat : Int)).1).kind, AI ((jA1 (nR rest c) (c.toNat : Int)).1).from_, AI ((jA1 (nR rest c) (c.toNat : Int)).1).fmt, AI ((jA1 (nR rest c) (c.toNat : Int)).1).have_.a, AI ((jA1 (nR rest c) (c.toNat : Int)).1).have_.b, AI ((jA1 (nR rest c) (c.toNat : Int)).1).have_.c, AI ((jA1 (nR rest c) (c.toNat : Int)).1).have_.d, AI ((jA1 (nR rest c) (c.toNat : Int)).1).have_.e, AI ((jA1 (nR rest c) (c.toNat : Int)).1).have_.f, .sl (((jA1 (nR rest c) (c.toNat : Int)).1).tags.map TagD.cs), .sl (((jA1 (nR rest c) (c.toNat : Int)).1).edges.map EdgeD.cs), .sl (((jA1 (nR rest c) (c.toNat : Int)).1).ops.map OpD.cs)], AI (jA1 (nR rest c) (c.toNat : Int)).2.1, AI (jA1 (nR rest c) (c.toNat : Int)).2.2])) := by
  have hc : c.toNat < 256 := UInt8.toNat_lt c
  have hR : (nR rest c).Ok := jF7 (by omega) _
  refine AC.of' 91 4 Tryz.func15 rfl ?_; change AW _ _ _ _ [TK.mk 0 .off, TK.mk 0 .off, TK.mk 0 .off, TK.mk 0 .off]; refine AW.g (AL.oq (AOpB.op (jA7 1 rfl rfl rfl ?_))); refine AL.no ?_; refine AL.oq (AOpB.op (oA 2 jA2 ?_)); refine AL.no ?_; (iterate 2 refine AL.ra ?_); refine AL.nil (AW.g (AL.rm ?_)); refine AL.r (jBq rfl jCU rfl rfl) ?_; refine AL.cl (hg) ?_; refine AL.no ?_; refine AL.rm ?_; refine AL.r qe ?_; refine AL.r qe ?_; refine AL.r qe ?_; (iterate 3 refine AL.ra ?_); refine AL.nil (AW.seq (AW.g (AL.rm ?_))); refine AL.r qb ?_; refine AL.rm ?_; refine AL.fk (d := 22) rfl (fun h22 => ?_) (fun h22 => ?_)
  ·(exfalso; simp_all)
  refine AL.n ?_; refine AL.ro (jAa rfl rfl) ?_; refine AL.ro (jAa rfl rfl) ?_; refine AL.ro (lN jAC) ?_; refine AL.ro qb ?_; refine AL.r qf ?_; refine AL.nil (AW.cd rfl (fun h27 => ?_) (fun h27 => ?_))
  ·(exfalso; simp_all [jAd])
  refine AW.skip (AW.seq (AW.g (AL.rm ?_))); refine AL.r (lN jAC) ?_; refine AL.r qb ?_; refine AL.rm ?_; refine AL.fk (d := 32) rfl (fun h32 => ?_) (fun h32 => ?_)
  ·(exfalso; simp_all [byA]; (try omega))
  refine AL.n ?_; refine AL.ro (jAa rfl rfl) ?_; refine AL.ro (jAc rfl jAC rfl rfl (n := 0) rfl rfl rfl) ?_; refine AL.ro (jAl rfl ag_5 rfl rfl) ?_; refine AL.ro (jAu rfl jCN ik_3 rfl (IntWalk.i64_in _ (by omega))) ?_; refine AL.on rfl rfl rfl (AOpB.op (jAb (jE9 (c.toNat : Int) hok) rfl (by kernel_rfl) rfl (none) ?_)); rintro r rfl; refine AL.no ?_; refine AL.ro qu ?_; refine AL.r qf ?_; refine AL.nil (AW.cond_f rfl (AW.skip (AW.g (AL.rm ?_)))); refine AL.r (jAc rfl jAC rfl rfl (n := 0) rfl rfl rfl) ?_; refine AL.r (jAl rfl ag_5 rfl rfl) ?_; refine AL.r (jAu rfl jCN ik_3 rfl (IntWalk.i64_in _ (by omega))) ?_; refine AL.ra ?_; refine AL.nil (AW.g (AL.rm ?_)); refine AL.r (jBl rfl jAC rfl rfl (m := 1) rfl (by simp)) ?_; refine AL.rm ?_; refine AL.oq (jAi (jIL rest (by omega) (c.toNat : Int) 0) [0] ?_); rintro y os' ⟨rfl, rfl⟩; refine AL.noR ?_; refine AL.ra ?_; refine AL.nil (AW.g (AL.rm ?_)); refine AL.oq (jAi (jGM 1 (nR rest c) hR 1 hk) [0] ?_); rintro y os' ⟨rfl, rfl⟩; refine AL.noR ?_; refine AL.rm ?_; refine AL.oq (jAi (jFx 1 (o1 (nR rest c)) (jJT hR).ok) [0] ?_); rintro y os' ⟨rfl, rfl⟩; refine AL.noR ?_; refine AL.r (qB jCh jA2) ?_; refine AL.oq (AOpB.op (oA 3 jA2 ?_)); refine AL.no ?_; refine AL.oq (oS jAR ?_); refine AL.no ?_; refine AL.nil (AW.seq (AW.seq ?_))
  refine AW.region (AL.r (qa jAo) ?_); refine AL.r (ql ag_3) ?_; refine AL.nil (AW.block (AW.g (AL.r qb ?_))); refine AL.ra ?_; refine AL.nil (AW.cond_t rfl (AW.g (AL.rm ?_))); refine AL.oq (jAi (jFx 1 (o2 (nR rest c)) (jI8 hR).ok) [0] ?_); rintro y os' ⟨rfl, rfl⟩; refine AL.noR ?_; refine AL.r (qa jCJ) ?_; refine AL.oq (oS sz_3 ?_); refine AL.no ?_; refine AL.nil (AW.g (AL.rm ?_)); refine AL.oq (jAi (rvec_c 1 (o3 (nR rest c)) (o3_ok hR).ok) [0] ?_); rintro y os' ⟨rfl, rfl⟩; refine AL.noR ?_; refine AL.r (qa jCf) ?_; refine AL.oq (oS jGN ?_); refine AL.no ?_; refine AL.nil (AW.region (AL.rm ?_)); refine AL.oq (jAi (taket_c 1 (o4 (nR rest c)) (o4_ok hR).ok) [0] ?_); rintro y os' ⟨l9, r9, rfl, rfl, h9, hb9, hl9⟩; refine AL.noR ?_; refine AL.r (qa jCw) ?_; refine AL.oq (oS jIe ?_); refine AL.no ?_; refine AL.nil (AW.seq (AW.g ?_))
  have hkk := okN_1 hk hb9 hl9
  refine AL.rm ?_; refine AL.oq (jAi (jI0 1 r9 h9) [0] ?_); rintro y os' ⟨rfl, rfl⟩; refine AL.noR ?_; refine AL.r qb ?_; refine AL.rm ?_; refine AL.fk (d := 85) rfl (fun h85 => ?_) (fun h85 => ?_)
  ·refine AL.n ?_; (iterate 3 refine AL.rf ?_); refine AL.r qt ?_; refine AL.nil (AW.cond_t rfl (AW.g (AL.r (qB jCh jA2) ?_))); refine AL.oq (oS jAR ?_); refine AL.no ?_; (iterate 2 refine AL.ra ?_); refine AL.nil (AW.ret ?_); refine r3 jAB ?_; rw [jDT (by rw [hkk.1]; simp_all)]; rfl
  refine AL.n ?_; refine AL.ro (qN jAB) ?_; refine AL.on rfl rfl rfl (AOpB.op (jAb (jER ⟨1, nfr (nR rest c), smP (numP (o2 (nR rest c))).1, (jCp (o3 (nR rest c))).1, l9, [], []⟩) rfl (by kernel_rfl) rfl (none) ?_)); rintro r rfl; refine AL.no ?_; refine AL.ro qu ?_; refine AL.r qf ?_; refine AL.nil (AW.cd rfl (fun h89 => ?_) (fun h89 => ?_))
  ·refine AW.g (AL.r (qB jCh jA2) ?_); refine AL.oq (oS jAR ?_); refine AL.no ?_; (iterate 2 refine AL.ra ?_); refine AL.nil (AW.ret ?_); refine r3 jAB ?_; rw [jDT (by rw [hkk.1]; simp_all)]; rfl
  refine AW.skip (AW.g (AL.r (qN jAB) ?_)); refine AL.rm ?_; refine AL.oq (oS jAR ?_); refine AL.no ?_; (iterate 2 refine AL.ra ?_); refine AL.nil (AW.ret ?_); refine r3 jAB ?_
  have hkt : okNt (nR rest c) = true := (by rw [hkk.1]; simp_all)
  rw [jF3 hkt (hkk.2 hkt)]; rfl
set_option maxHeartbeats 4000000 in
theorem open_2 (hk : nk (nR rest c) = 2) : AC Tryz.prog 15 [.sc (tabV t), .sl (byA l)] (fun r => r = .s (.tu [.ag [AI ((jA1 (nR rest c) (c.toNat : Int)).1).kind, AI ((jA1 (nR rest c) (c.toNat : Int)).1).from_, AI ((jA1 (nR rest c) (c.toNat : Int)).1).fmt, AI ((jA1 (nR rest c) (c.toNat : Int)).1).have_.a, AI ((jA1 (nR rest c) (c.toNat : Int)).1).have_.b, AI ((jA1 (nR rest c) (c.toNat : Int)).1).have_.c, AI ((jA1 (nR rest c) (c.toNat : Int)).1).have_.d, AI ((jA1 (nR rest c) (c.toNat : Int)).1).have_.e, AI ((jA1 (nR rest c) (c.toNat : Int)).1).have_.f, .sl (((jA1 (nR rest c) (c.toNat : Int)).1).tags.map TagD.cs), .sl (((jA1 (nR rest c) (c.toNat : Int)).1).edges.map EdgeD.cs), .sl (((jA1 (nR rest c) (c.toNat : Int)).1).ops.map OpD.cs)], AI (jA1 (nR rest c) (c.toNat : Int)).2.1, AI (jA1 (nR rest c) (c.toNat : Int)).2.2])) := by
  have hc : c.toNat < 256 := UInt8.toNat_lt c
  have hR : (nR rest c).Ok := jF7 (by omega) _
  refine AC.of' 91 4 Tryz.func15 rfl ?_; change AW _ _ _ _ [TK.mk 0 .off, TK.mk 0 .off, TK.mk 0 .off, TK.mk 0 .off]; refine AW.g (AL.oq (AOpB.op (jA7 1 rfl rfl rfl ?_))); refine AL.no ?_; refine AL.oq (AOpB.op (oA 2 jA2 ?_)); refine AL.no ?_; (iterate 2 refine AL.ra ?_); refine AL.nil (AW.g (AL.rm ?_)); refine AL.r (jBq rfl jCU rfl rfl) ?_; refine AL.cl (hg) ?_; refine AL.no ?_; refine AL.rm ?_; refine AL.r qe ?_; refine AL.r qe ?_; refine AL.r qe ?_; (iterate 3 refine AL.ra ?_); refine AL.nil (AW.seq (AW.g (AL.rm ?_))); refine AL.r qb ?_; refine AL.rm ?_; refine AL.fk (d := 22) rfl (fun h22 => ?_) (fun h22 => ?_)
  ·(exfalso; simp_all)
  refine AL.n ?_; refine AL.ro (jAa rfl rfl) ?_; refine AL.ro (jAa rfl rfl) ?_; refine AL.ro (lN jAC) ?_; refine AL.ro qb ?_; refine AL.r qf ?_; refine AL.nil (AW.cd rfl (fun h27 => ?_) (fun h27 => ?_))
  ·(exfalso; simp_all [jAd])
  refine AW.skip (AW.seq (AW.g (AL.rm ?_))); refine AL.r (lN jAC) ?_; refine AL.r qb ?_; refine AL.rm ?_; refine AL.fk (d := 32) rfl (fun h32 => ?_) (fun h32 => ?_)
  ·(exfalso; simp_all [byA]; (try omega))
  refine AL.n ?_; refine AL.ro (jAa rfl rfl) ?_; refine AL.ro (jAc rfl jAC rfl rfl (n := 0) rfl rfl rfl) ?_; refine AL.ro (jAl rfl ag_5 rfl rfl) ?_; refine AL.ro (jAu rfl jCN ik_3 rfl (IntWalk.i64_in _ (by omega))) ?_; refine AL.on rfl rfl rfl (AOpB.op (jAb (jE9 (c.toNat : Int) hok) rfl (by kernel_rfl) rfl (none) ?_)); rintro r rfl; refine AL.no ?_; refine AL.ro qu ?_; refine AL.r qf ?_; refine AL.nil (AW.cond_f rfl (AW.skip (AW.g (AL.rm ?_)))); refine AL.r (jAc rfl jAC rfl rfl (n := 0) rfl rfl rfl) ?_; refine AL.r (jAl rfl ag_5 rfl rfl) ?_; refine AL.r (jAu rfl jCN ik_3 rfl (IntWalk.i64_in _ (by omega))) ?_; refine AL.ra ?_; refine AL.nil (AW.g (AL.rm ?_)); refine AL.r (jBl rfl jAC rfl rfl (m := 1) rfl (by simp)) ?_; refine AL.rm ?_; refine AL.oq (jAi (jIL rest (by omega) (c.toNat : Int) 0) [0] ?_); rintro y os' ⟨rfl, rfl⟩; refine AL.noR ?_; refine AL.ra ?_; refine AL.nil (AW.g (AL.rm ?_)); refine AL.oq (jAi (jGM 1 (nR rest c) hR 2 hk) [0] ?_); rintro y os' ⟨rfl, rfl⟩; refine AL.noR ?_; refine AL.rm ?_; refine AL.oq (jAi (jFx 1 (o1 (nR rest c)) (jJT hR).ok) [0] ?_); rintro y os' ⟨rfl, rfl⟩; refine AL.noR ?_; refine AL.r (qB jCh jA2) ?_; refine AL.oq (AOpB.op (oA 3 jA2 ?_)); refine AL.no ?_; refine AL.oq (oS jAR ?_); refine AL.no ?_; refine AL.nil (AW.seq (AW.seq ?_))
  refine AW.region (AL.r (qa jAo) ?_); refine AL.r (ql ag_3) ?_; refine AL.nil (AW.block (AW.g (AL.r qb ?_))); refine AL.ra ?_; refine AL.nil (AW.cond_f rfl (AW.g (AL.r qb ?_))); refine AL.ra ?_; refine AL.nil (AW.cond_t rfl (AW.region (AL.rm ?_))); refine AL.oq (jAi (takee_c 1 (o2 (nR rest c)) (jI8 hR).ok) [0] ?_); rintro y os' ⟨l9, r9, rfl, rfl, h9, hb9, hl9⟩; refine AL.noR ?_; refine AL.r (qa jCg) ?_; refine AL.oq (oS sz_25 ?_); refine AL.no ?_; refine AL.nil (AW.seq (AW.g ?_))
  have hkk := okN_2 hk hb9 hl9
  refine AL.rm ?_; refine AL.oq (jAi (jI0 1 r9 h9) [0] ?_); rintro y os' ⟨rfl, rfl⟩; refine AL.noR ?_; refine AL.r qb ?_; refine AL.rm ?_; refine AL.fk (d := 85) rfl (fun h85 => ?_) (fun h85 => ?_)
  ·refine AL.n ?_; (iterate 3 refine AL.rf ?_); refine AL.r qt ?_; refine AL.nil (AW.cond_t rfl (AW.g (AL.r (qB jCh jA2) ?_))); refine AL.oq (oS jAR ?_); refine AL.no ?_; (iterate 2 refine AL.ra ?_); refine AL.nil (AW.ret ?_); refine r3 jAB ?_; rw [jDT (by rw [hkk.1]; simp_all)]; rfl
  refine AL.n ?_; refine AL.ro (qN jAB) ?_; refine AL.on rfl rfl rfl (AOpB.op (jAb (jER ⟨2, nfr (nR rest c), 0, z6, [], l9, []⟩) rfl (by kernel_rfl) rfl (none) ?_)); rintro r rfl; refine AL.no ?_; refine AL.ro qu ?_; refine AL.r qf ?_; refine AL.nil (AW.cd rfl (fun h89 => ?_) (fun h89 => ?_))
  ·refine AW.g (AL.r (qB jCh jA2) ?_); refine AL.oq (oS jAR ?_); refine AL.no ?_; (iterate 2 refine AL.ra ?_); refine AL.nil (AW.ret ?_); refine r3 jAB ?_; rw [jDT (by rw [hkk.1]; simp_all)]; rfl
  refine AW.skip (AW.g (AL.r (qN jAB) ?_)); refine AL.rm ?_; refine AL.oq (oS jAR ?_); refine AL.no ?_; (iterate 2 refine AL.ra ?_); refine AL.nil (AW.ret ?_); refine r3 jAB ?_
  have hkt : okNt (nR rest c) = true := (by rw [hkk.1]; simp_all)
  rw [jF3 hkt (hkk.2 hkt)]; rfl
set_option maxHeartbeats 4000000 in
theorem open_3 (hk : nk (nR rest c) = 3) : AC Tryz.prog 15 [.sc (tabV t), .sl (byA l)] (fun r => r = .s (.tu [.ag [AI ((jA1 (nR rest c) (c.toNat : Int)).1).kind, AI ((jA1 (nR rest c) (c.toNat : Int)).1).from_, AI ((jA1 (nR rest c) (c.toNat : Int)).1).fmt, AI ((jA1 (nR rest c) (c.toNat : Int)).1).have_.a, AI ((jA1 (nR rest c) (c.toNat : Int)).1).have_.b, AI ((jA1 (nR rest c) (c.toNat : Int)).1).have_.c, AI ((jA1 (nR rest c) (c.toNat : Int)).1).have_.d, AI ((jA1 (nR rest c) (c.toNat : Int)).1).have_.e, AI ((jA1 (nR rest c) (c.toNat : Int)).1).have_.f, .sl (((jA1 (nR rest c) (c.toNat : Int)).1).tags.map TagD.cs), .sl (((jA1 (nR rest c) (c.toNat : Int)).1).edges.map EdgeD.cs), .sl (((jA1 (nR rest c) (c.toNat : Int)).1).ops.map OpD.cs)], AI (jA1 (nR rest c) (c.toNat : Int)).2.1, AI (jA1 (nR rest c) (c.toNat : Int)).2.2])) := by
  have hc : c.toNat < 256 := UInt8.toNat_lt c
  have hR : (nR rest c).Ok := jF7 (by omega) _
  refine AC.of' 91 4 Tryz.func15 rfl ?_; change AW _ _ _ _ [TK.mk 0 .off, TK.mk 0 .off, TK.mk 0 .off, TK.mk 0 .off]; refine AW.g (AL.oq (AOpB.op (jA7 1 rfl rfl rfl ?_))); refine AL.no ?_; refine AL.oq (AOpB.op (oA 2 jA2 ?_)); refine AL.no ?_; (iterate 2 refine AL.ra ?_); refine AL.nil (AW.g (AL.rm ?_)); refine AL.r (jBq rfl jCU rfl rfl) ?_; refine AL.cl (hg) ?_; refine AL.no ?_; refine AL.rm ?_; refine AL.r qe ?_; refine AL.r qe ?_; refine AL.r qe ?_; (iterate 3 refine AL.ra ?_); refine AL.nil (AW.seq (AW.g (AL.rm ?_))); refine AL.r qb ?_; refine AL.rm ?_; refine AL.fk (d := 22) rfl (fun h22 => ?_) (fun h22 => ?_)
  ·(exfalso; simp_all)
  refine AL.n ?_; refine AL.ro (jAa rfl rfl) ?_; refine AL.ro (jAa rfl rfl) ?_; refine AL.ro (lN jAC) ?_; refine AL.ro qb ?_; refine AL.r qf ?_; refine AL.nil (AW.cd rfl (fun h27 => ?_) (fun h27 => ?_))
  ·(exfalso; simp_all [jAd])
  refine AW.skip (AW.seq (AW.g (AL.rm ?_))); refine AL.r (lN jAC) ?_; refine AL.r qb ?_; refine AL.rm ?_; refine AL.fk (d := 32) rfl (fun h32 => ?_) (fun h32 => ?_)
  ·(exfalso; simp_all [byA]; (try omega))
  refine AL.n ?_; refine AL.ro (jAa rfl rfl) ?_; refine AL.ro (jAc rfl jAC rfl rfl (n := 0) rfl rfl rfl) ?_; refine AL.ro (jAl rfl ag_5 rfl rfl) ?_; refine AL.ro (jAu rfl jCN ik_3 rfl (IntWalk.i64_in _ (by omega))) ?_; refine AL.on rfl rfl rfl (AOpB.op (jAb (jE9 (c.toNat : Int) hok) rfl (by kernel_rfl) rfl (none) ?_)); rintro r rfl; refine AL.no ?_; refine AL.ro qu ?_; refine AL.r qf ?_; refine AL.nil (AW.cond_f rfl (AW.skip (AW.g (AL.rm ?_)))); refine AL.r (jAc rfl jAC rfl rfl (n := 0) rfl rfl rfl) ?_; refine AL.r (jAl rfl ag_5 rfl rfl) ?_; refine AL.r (jAu rfl jCN ik_3 rfl (IntWalk.i64_in _ (by omega))) ?_; refine AL.ra ?_; refine AL.nil (AW.g (AL.rm ?_)); refine AL.r (jBl rfl jAC rfl rfl (m := 1) rfl (by simp)) ?_; refine AL.rm ?_; refine AL.oq (jAi (jIL rest (by omega) (c.toNat : Int) 0) [0] ?_); rintro y os' ⟨rfl, rfl⟩; refine AL.noR ?_; refine AL.ra ?_; refine AL.nil (AW.g (AL.rm ?_)); refine AL.oq (jAi (jGM 1 (nR rest c) hR 3 hk) [0] ?_); rintro y os' ⟨rfl, rfl⟩; refine AL.noR ?_; refine AL.rm ?_; refine AL.oq (jAi (jFx 1 (o1 (nR rest c)) (jJT hR).ok) [0] ?_); rintro y os' ⟨rfl, rfl⟩; refine AL.noR ?_; refine AL.r (qB jCh jA2) ?_; refine AL.oq (AOpB.op (oA 3 jA2 ?_)); refine AL.no ?_; refine AL.oq (oS jAR ?_); refine AL.no ?_; refine AL.nil (AW.seq (AW.seq ?_))
  refine AW.region (AL.r (qa jAo) ?_); refine AL.r (ql ag_3) ?_; refine AL.nil (AW.block (AW.g (AL.r qb ?_))); refine AL.ra ?_; refine AL.nil (AW.cond_f rfl (AW.g (AL.r qb ?_))); refine AL.ra ?_; refine AL.nil (AW.cond_f rfl (AW.g (AL.r qb ?_))); refine AL.ra ?_; refine AL.nil (AW.cond_t rfl (AW.region (AL.rm ?_))); refine AL.oq (jAi (takeo_c 1 (o2 (nR rest c)) (jI8 hR).ok) [0] ?_); rintro y os' ⟨l9, r9, rfl, rfl, h9, hb9, hl9⟩; refine AL.noR ?_; refine AL.r (qa jCe) ?_; refine AL.oq (oS sz_26 ?_); refine AL.no ?_; refine AL.nil (AW.seq (AW.g ?_))
  have hkk := okN_3 hk hb9 hl9
  refine AL.rm ?_; refine AL.oq (jAi (jI0 1 r9 h9) [0] ?_); rintro y os' ⟨rfl, rfl⟩; refine AL.noR ?_; refine AL.r qb ?_; refine AL.rm ?_; refine AL.fk (d := 85) rfl (fun h85 => ?_) (fun h85 => ?_)
  ·refine AL.n ?_; (iterate 3 refine AL.rf ?_); refine AL.r qt ?_; refine AL.nil (AW.cond_t rfl (AW.g (AL.r (qB jCh jA2) ?_))); refine AL.oq (oS jAR ?_); refine AL.no ?_; (iterate 2 refine AL.ra ?_); refine AL.nil (AW.ret ?_); refine r3 jAB ?_; rw [jDT (by rw [hkk.1]; simp_all)]; rfl
  refine AL.n ?_; refine AL.ro (qN jAB) ?_; refine AL.on rfl rfl rfl (AOpB.op (jAb (jER ⟨3, nfr (nR rest c), 0, z6, [], [], l9⟩) rfl (by kernel_rfl) rfl (none) ?_)); rintro r rfl; refine AL.no ?_; refine AL.ro qu ?_; refine AL.r qf ?_; refine AL.nil (AW.cd rfl (fun h89 => ?_) (fun h89 => ?_))
  ·refine AW.g (AL.r (qB jCh jA2) ?_); refine AL.oq (oS jAR ?_); refine AL.no ?_; (iterate 2 refine AL.ra ?_); refine AL.nil (AW.ret ?_); refine r3 jAB ?_; rw [jDT (by rw [hkk.1]; simp_all)]; rfl
  refine AW.skip (AW.g (AL.r (qN jAB) ?_)); refine AL.rm ?_; refine AL.oq (oS jAR ?_); refine AL.no ?_; (iterate 2 refine AL.ra ?_); refine AL.nil (AW.ret ?_); refine r3 jAB ?_
  have hkt : okNt (nR rest c) = true := (by rw [hkk.1]; simp_all)
  rw [jF3 hkt (hkk.2 hkt)]; rfl
set_option maxHeartbeats 4000000 in
theorem open_4 (hk : nk (nR rest c) = 4) : AC Tryz.prog 15 [.sc (tabV t), .sl (byA l)] (fun r => r = .s (.tu [.ag [AI ((jA1 (nR rest c) (c.toNat : Int)).1).kind, AI ((jA1 (nR rest c) (c.toNat : Int)).1).from_, AI ((jA1 (nR rest c) (c.toNat : Int)).1).fmt, AI ((jA1 (nR rest c) (c.toNat : Int)).1).have_.a, AI ((jA1 (nR rest c) (c.toNat : Int)).1).have_.b, AI ((jA1 (nR rest c) (c.toNat : Int)).1).have_.c, AI ((jA1 (nR rest c) (c.toNat : Int)).1).have_.d, AI ((jA1 (nR rest c) (c.toNat : Int)).1).have_.e, AI ((jA1 (nR rest c) (c.toNat : Int)).1).have_.f, .sl (((jA1 (nR rest c) (c.toNat : Int)).1).tags.map TagD.cs), .sl (((jA1 (nR rest c) (c.toNat : Int)).1).edges.map EdgeD.cs), .sl (((jA1 (nR rest c) (c.toNat : Int)).1).ops.map OpD.cs)], AI (jA1 (nR rest c) (c.toNat : Int)).2.1, AI (jA1 (nR rest c) (c.toNat : Int)).2.2])) := by
  have hc : c.toNat < 256 := UInt8.toNat_lt c
  have hR : (nR rest c).Ok := jF7 (by omega) _
  refine AC.of' 91 4 Tryz.func15 rfl ?_; change AW _ _ _ _ [TK.mk 0 .off, TK.mk 0 .off, TK.mk 0 .off, TK.mk 0 .off]; refine AW.g (AL.oq (AOpB.op (jA7 1 rfl rfl rfl ?_))); refine AL.no ?_; refine AL.oq (AOpB.op (oA 2 jA2 ?_)); refine AL.no ?_; (iterate 2 refine AL.ra ?_); refine AL.nil (AW.g (AL.rm ?_)); refine AL.r (jBq rfl jCU rfl rfl) ?_; refine AL.cl (hg) ?_; refine AL.no ?_; refine AL.rm ?_; refine AL.r qe ?_; refine AL.r qe ?_; refine AL.r qe ?_; (iterate 3 refine AL.ra ?_); refine AL.nil (AW.seq (AW.g (AL.rm ?_))); refine AL.r qb ?_; refine AL.rm ?_; refine AL.fk (d := 22) rfl (fun h22 => ?_) (fun h22 => ?_)
  ·(exfalso; simp_all)
  refine AL.n ?_; refine AL.ro (jAa rfl rfl) ?_; refine AL.ro (jAa rfl rfl) ?_; refine AL.ro (lN jAC) ?_; refine AL.ro qb ?_; refine AL.r qf ?_; refine AL.nil (AW.cd rfl (fun h27 => ?_) (fun h27 => ?_))
  ·(exfalso; simp_all [jAd])
  refine AW.skip (AW.seq (AW.g (AL.rm ?_))); refine AL.r (lN jAC) ?_; refine AL.r qb ?_; refine AL.rm ?_; refine AL.fk (d := 32) rfl (fun h32 => ?_) (fun h32 => ?_)
  ·(exfalso; simp_all [byA]; (try omega))
  refine AL.n ?_; refine AL.ro (jAa rfl rfl) ?_; refine AL.ro (jAc rfl jAC rfl rfl (n := 0) rfl rfl rfl) ?_; refine AL.ro (jAl rfl ag_5 rfl rfl) ?_; refine AL.ro (jAu rfl jCN ik_3 rfl (IntWalk.i64_in _ (by omega))) ?_; refine AL.on rfl rfl rfl (AOpB.op (jAb (jE9 (c.toNat : Int) hok) rfl (by kernel_rfl) rfl (none) ?_)); rintro r rfl; refine AL.no ?_; refine AL.ro qu ?_; refine AL.r qf ?_; refine AL.nil (AW.cond_f rfl (AW.skip (AW.g (AL.rm ?_)))); refine AL.r (jAc rfl jAC rfl rfl (n := 0) rfl rfl rfl) ?_; refine AL.r (jAl rfl ag_5 rfl rfl) ?_; refine AL.r (jAu rfl jCN ik_3 rfl (IntWalk.i64_in _ (by omega))) ?_; refine AL.ra ?_; refine AL.nil (AW.g (AL.rm ?_)); refine AL.r (jBl rfl jAC rfl rfl (m := 1) rfl (by simp)) ?_; refine AL.rm ?_; refine AL.oq (jAi (jIL rest (by omega) (c.toNat : Int) 0) [0] ?_); rintro y os' ⟨rfl, rfl⟩; refine AL.noR ?_; refine AL.ra ?_; refine AL.nil (AW.g (AL.rm ?_)); refine AL.oq (jAi (jGM 1 (nR rest c) hR 4 hk) [0] ?_); rintro y os' ⟨rfl, rfl⟩; refine AL.noR ?_; refine AL.rm ?_; refine AL.oq (jAi (jFx 1 (o1 (nR rest c)) (jJT hR).ok) [0] ?_); rintro y os' ⟨rfl, rfl⟩; refine AL.noR ?_; refine AL.r (qB jCh jA2) ?_; refine AL.oq (AOpB.op (oA 3 jA2 ?_)); refine AL.no ?_; refine AL.oq (oS jAR ?_); refine AL.no ?_; refine AL.nil (AW.seq (AW.seq ?_))
  refine AW.region (AL.r (qa jAo) ?_); refine AL.r (ql ag_3) ?_; refine AL.nil (AW.block (AW.g (AL.r qb ?_))); refine AL.ra ?_; refine AL.nil (AW.cond_f rfl (AW.g (AL.r qb ?_))); refine AL.ra ?_; refine AL.nil (AW.cond_f rfl (AW.g (AL.r qb ?_))); refine AL.ra ?_; refine AL.nil (AW.cond_f rfl (AW.g (AL.r qb ?_))); refine AL.ra ?_; refine AL.nil (AW.cond_t rfl (AW.region (AL.rm ?_))); refine AL.oq (jAi (rvec_c 1 (o2 (nR rest c)) (jI8 hR).ok) [0] ?_); rintro y os' ⟨rfl, rfl⟩; refine AL.noR ?_; refine AL.r (qa jCf) ?_; refine AL.oq (oS jGN ?_); refine AL.no ?_; refine AL.nil (AW.seq (AW.g ?_))
  have hkk := okN_4 hk
  refine AL.rm ?_; refine AL.oq (jAi (jI0 1 (jCp (o2 (nR rest c))).2 (jHN (jI8 hR).ok).ok) [0] ?_); rintro y os' ⟨rfl, rfl⟩; refine AL.noR ?_; refine AL.r qb ?_; refine AL.rm ?_; refine AL.fk (d := 85) rfl (fun h85 => ?_) (fun h85 => ?_)
  ·refine AL.n ?_; (iterate 3 refine AL.rf ?_); refine AL.r qt ?_; refine AL.nil (AW.cond_t rfl (AW.g (AL.r (qB jCh jA2) ?_))); refine AL.oq (oS jAR ?_); refine AL.no ?_; (iterate 2 refine AL.ra ?_); refine AL.nil (AW.ret ?_); refine r3 jAB ?_; rw [jDT (by rw [hkk.1]; simp_all)]; rfl
  refine AL.n ?_; refine AL.ro (qN jAB) ?_; refine AL.on rfl rfl rfl (AOpB.op (jAb (jER ⟨4, nfr (nR rest c), 0, (jCp (o2 (nR rest c))).1, [], [], []⟩) rfl (by kernel_rfl) rfl (none) ?_)); rintro r rfl; refine AL.no ?_; refine AL.ro qu ?_; refine AL.r qf ?_; refine AL.nil (AW.cd rfl (fun h89 => ?_) (fun h89 => ?_))
  ·refine AW.g (AL.r (qB jCh jA2) ?_); refine AL.oq (oS jAR ?_); refine AL.no ?_; (iterate 2 refine AL.ra ?_); refine AL.nil (AW.ret ?_); refine r3 jAB ?_; rw [jDT (by rw [hkk.1]; simp_all)]; rfl
  refine AW.skip (AW.g (AL.r (qN jAB) ?_)); refine AL.rm ?_; refine AL.oq (oS jAR ?_); refine AL.no ?_; (iterate 2 refine AL.ra ?_); refine AL.nil (AW.ret ?_); refine r3 jAB ?_
  have hkt : okNt (nR rest c) = true := (by rw [hkk.1]; simp_all)
  rw [jF3 hkt (hkk.2 hkt)]; rfl
set_option maxHeartbeats 4000000 in
theorem open_o (n1 : ¬ nk (nR rest c) = 1) (n2 : ¬ nk (nR rest c) = 2) (n3 : ¬ nk (nR rest c) = 3) (n4 : ¬ nk (nR rest c) = 4) : AC Tryz.prog 15 [.sc (tabV t), .sl (byA l)] (fun r => r = .s (.tu [.ag [AI ((jA1 (nR rest c) (c.toNat : Int)).1).kind, AI ((jA1 (nR rest c) (c.toNat : Int)).1).from_, AI ((jA1 (nR rest c) (c.toNat : Int)).1).fmt, AI ((jA1 (nR rest c) (c.toNat : Int)).1).have_.a, AI ((jA1 (nR rest c) (c.toNat : Int)).1).have_.b, AI ((jA1 (nR rest c) (c.toNat : Int)).1).have_.c, AI ((jA1 (nR rest c) (c.toNat : Int)).1).have_.d, AI ((jA1 (nR rest c) (c.toNat : Int)).1).have_.e, AI ((jA1 (nR rest c) (c.toNat : Int)).1).have_.f, .sl (((jA1 (nR rest c) (c.toNat : Int)).1).tags.map TagD.cs), .sl (((jA1 (nR rest c) (c.toNat : Int)).1).edges.map EdgeD.cs), .sl (((jA1 (nR rest c) (c.toNat : Int)).1).ops.map OpD.cs)], AI (jA1 (nR rest c) (c.toNat : Int)).2.1, AI (jA1 (nR rest c) (c.toNat : Int)).2.2])) := by
  have hc : c.toNat < 256 := UInt8.toNat_lt c
  have hR : (nR rest c).Ok := jF7 (by omega) _
  refine AC.of' 91 4 Tryz.func15 rfl ?_; change AW _ _ _ _ [TK.mk 0 .off, TK.mk 0 .off, TK.mk 0 .off, TK.mk 0 .off]; refine AW.g (AL.oq (AOpB.op (jA7 1 rfl rfl rfl ?_))); refine AL.no ?_; refine AL.oq (AOpB.op (oA 2 jA2 ?_)); refine AL.no ?_; (iterate 2 refine AL.ra ?_); refine AL.nil (AW.g (AL.rm ?_)); refine AL.r (jBq rfl jCU rfl rfl) ?_; refine AL.cl (hg) ?_; refine AL.no ?_; refine AL.rm ?_; refine AL.r qe ?_; refine AL.r qe ?_; refine AL.r qe ?_; (iterate 3 refine AL.ra ?_); refine AL.nil (AW.seq (AW.g (AL.rm ?_))); refine AL.r qb ?_; refine AL.rm ?_; refine AL.fk (d := 22) rfl (fun h22 => ?_) (fun h22 => ?_)
  ·(exfalso; simp_all)
  refine AL.n ?_; refine AL.ro (jAa rfl rfl) ?_; refine AL.ro (jAa rfl rfl) ?_; refine AL.ro (lN jAC) ?_; refine AL.ro qb ?_; refine AL.r qf ?_; refine AL.nil (AW.cd rfl (fun h27 => ?_) (fun h27 => ?_))
  ·(exfalso; simp_all [jAd])
  refine AW.skip (AW.seq (AW.g (AL.rm ?_))); refine AL.r (lN jAC) ?_; refine AL.r qb ?_; refine AL.rm ?_; refine AL.fk (d := 32) rfl (fun h32 => ?_) (fun h32 => ?_)
  ·(exfalso; simp_all [byA]; (try omega))
  refine AL.n ?_; refine AL.ro (jAa rfl rfl) ?_; refine AL.ro (jAc rfl jAC rfl rfl (n := 0) rfl rfl rfl) ?_; refine AL.ro (jAl rfl ag_5 rfl rfl) ?_; refine AL.ro (jAu rfl jCN ik_3 rfl (IntWalk.i64_in _ (by omega))) ?_; refine AL.on rfl rfl rfl (AOpB.op (jAb (jE9 (c.toNat : Int) hok) rfl (by kernel_rfl) rfl (none) ?_)); rintro r rfl; refine AL.no ?_; refine AL.ro qu ?_; refine AL.r qf ?_; refine AL.nil (AW.cond_f rfl (AW.skip (AW.g (AL.rm ?_)))); refine AL.r (jAc rfl jAC rfl rfl (n := 0) rfl rfl rfl) ?_; refine AL.r (jAl rfl ag_5 rfl rfl) ?_; refine AL.r (jAu rfl jCN ik_3 rfl (IntWalk.i64_in _ (by omega))) ?_; refine AL.ra ?_; refine AL.nil (AW.g (AL.rm ?_)); refine AL.r (jBl rfl jAC rfl rfl (m := 1) rfl (by simp)) ?_; refine AL.rm ?_; refine AL.oq (jAi (jIL rest (by omega) (c.toNat : Int) 0) [0] ?_); rintro y os' ⟨rfl, rfl⟩; refine AL.noR ?_; refine AL.ra ?_; refine AL.nil (AW.g (AL.rm ?_)); refine AL.oq (jAi (jGM 1 (nR rest c) hR (nk (nR rest c)) rfl) [0] ?_); rintro y os' ⟨rfl, rfl⟩; refine AL.noR ?_; refine AL.rm ?_; refine AL.oq (jAi (jFx 1 (o1 (nR rest c)) (jJT hR).ok) [0] ?_); rintro y os' ⟨rfl, rfl⟩; refine AL.noR ?_; refine AL.r (qB jCh jA2) ?_; refine AL.oq (AOpB.op (oA 3 jA2 ?_)); refine AL.no ?_; refine AL.oq (oS jAR ?_); refine AL.no ?_; refine AL.nil ?_
  refine AW.seq (AW.g (AL.r (qa jAo) ?_)); refine AL.r (ql ag_3) ?_; refine AL.nil (AW.block (AW.g (AL.r qb ?_))); refine AL.ra ?_; refine AL.nil (AW.cd rfl (fun h56 => ?_) (fun h56 => ?_))
  ·(exfalso; exact n1 (by assumption))
  refine AW.g (AL.r qb ?_); refine AL.ra ?_; refine AL.nil (AW.cd rfl (fun h67 => ?_) (fun h67 => ?_))
  ·(exfalso; exact n2 (by assumption))
  refine AW.g (AL.r qb ?_); refine AL.ra ?_; refine AL.nil (AW.cd rfl (fun h72 => ?_) (fun h72 => ?_))
  ·(exfalso; exact n3 (by assumption))
  refine AW.g (AL.r qb ?_); refine AL.ra ?_; refine AL.nil (AW.cd rfl (fun h77 => ?_) (fun h77 => ?_))
  ·(exfalso; exact n4 (by assumption))
  refine AW.skip (AW.seq (AW.g ?_))
  have hkk := okN_o n1 n2 n3 n4
  refine AL.rm ?_; refine AL.oq (jAi (jI0 1 (o2 (nR rest c)) (jI8 hR).ok) [0] ?_); rintro y os' ⟨rfl, rfl⟩; refine AL.noR ?_; refine AL.r qb ?_; refine AL.rm ?_; refine AL.fk (d := 85) rfl (fun h85 => ?_) (fun h85 => ?_)
  ·refine AL.n ?_; (iterate 3 refine AL.rf ?_); refine AL.r qt ?_; refine AL.nil (AW.cond_t rfl (AW.g (AL.r (qB jCh jA2) ?_))); refine AL.oq (oS jAR ?_); refine AL.no ?_; (iterate 2 refine AL.ra ?_); refine AL.nil (AW.ret ?_); refine r3 jAB ?_; rw [jDT (by rw [hkk.1]; simp_all)]; rfl
  refine AL.n ?_; refine AL.ro (qN jAB) ?_; refine AL.on rfl rfl rfl (AOpB.op (jAb (jER ⟨nk (nR rest c), nfr (nR rest c), 0, z6, [], [], []⟩) rfl (by kernel_rfl) rfl (none) ?_)); rintro r rfl; refine AL.no ?_; refine AL.ro qu ?_; refine AL.r qf ?_; refine AL.nil (AW.cd rfl (fun h89 => ?_) (fun h89 => ?_))
  ·refine AW.g (AL.r (qB jCh jA2) ?_); refine AL.oq (oS jAR ?_); refine AL.no ?_; (iterate 2 refine AL.ra ?_); refine AL.nil (AW.ret ?_); refine r3 jAB ?_; rw [jDT (by rw [hkk.1]; simp_all)]; rfl
  refine AW.skip (AW.g (AL.r (qN jAB) ?_)); refine AL.rm ?_; refine AL.oq (oS jAR ?_); refine AL.no ?_; (iterate 2 refine AL.ra ?_); refine AL.nil (AW.ret ?_); refine r3 jAB ?_
  have hkt : okNt (nR rest c) = true := (by rw [hkk.1]; simp_all)
  rw [jF3 hkt (hkk.2 hkt)]; rfl
theorem open_ok : AC Tryz.prog 15 [.sc (tabV t), .sl (byA l)] (fun r => r = .s (.tu [(jA1 (nR rest c) (c.toNat : Int)).1.av, AI (jA1 (nR rest c) (c.toNat : Int)).2.1, AI (jA1 (nR rest c) (c.toNat : Int)).2.2])) := by
  by_cases h1 : nk (nR rest c) = 1
  · exact open_1 t l c rest hrl hok hg h1
  by_cases h2 : nk (nR rest c) = 2
  · exact open_2 t l c rest hrl hok hg h2
  by_cases h3 : nk (nR rest c) = 3
  · exact open_3 t l c rest hrl hok hg h3
  by_cases h4 : nk (nR rest c) = 4
  · exact open_4 t l c rest hrl hok hg h4
  exact open_o t l c rest hrl hok hg h1 h2 h3 h4
end
theorem jJd (t : Nat → Nat) (l inner : List UInt8) (e z : Int) (hn : ¬ (z = 0 ∧ e = (l.length : Int))) (hg : AC Tryz.prog 55 [.sl (byA l), .sc (.int .i64 0), .sc (tabV t)] (fun r => r = .s (.tu [.sl (byA inner), .sc (.int .i64 e), .sc (.int .i64 z)]))) : AC Tryz.prog 15 [.sc (tabV t), .sl (byA l)] (fun r => r = .s (.tu [zN.av, AI 0, AI 8])) := by
  refine AC.of' 91 3 Tryz.func15 rfl ?_; change AW _ _ _ _ [TK.mk 0 .off, TK.mk 0 .off, TK.mk 0 .off]; refine AW.g (AL.oq (AOpB.op (jA7 0 rfl rfl rfl ?_))); refine AL.n ?_; refine AL.oq (AOpB.op (oA 1 jA2 ?_)); refine AL.n ?_; (iterate 2 refine AL.ra ?_); refine AL.nil (AW.g (AL.rm ?_)); refine AL.r (jBq rfl jCU rfl rfl) ?_; refine AL.cl (hg) ?_; refine AL.n ?_; refine AL.rm ?_; refine AL.r qe ?_; refine AL.r qe ?_; refine AL.r qe ?_; (iterate 3 refine AL.ra ?_); refine AL.nil (AW.seq (AW.g (AL.rm ?_))); refine AL.r qb ?_; refine AL.rm ?_; refine AL.fk (d := 22) rfl (fun h22 => ?_) (fun h22 => ?_)
  ·refine AL.n ?_; (iterate 4 refine AL.rf ?_); refine AL.r qt ?_; refine AL.nil (AW.cond_t rfl (AW.g (AL.r (qB jCh jA2) ?_))); refine AL.oq (oS jAR ?_); refine AL.n ?_; (iterate 2 refine AL.ra ?_); refine AL.nil (AW.ret ?_); refine r3 jAB ?_; rfl
  refine AL.n ?_; refine AL.ro (jAa rfl rfl) ?_; refine AL.ro (jAa rfl rfl) ?_; refine AL.ro (lN jAC) ?_; refine AL.ro qb ?_; refine AL.r qf ?_; refine AL.nil (AW.cd rfl (fun h27 => ?_) (fun h27 => ?_))
  ·refine AW.g (AL.r (qB jCh jA2) ?_); refine AL.oq (oS jAR ?_); refine AL.n ?_; (iterate 2 refine AL.ra ?_); refine AL.nil (AW.ret ?_); refine r3 jAB ?_; rfl
  (exfalso; first | exact hn ⟨by assumption, by assumption⟩ | omega | (simp_all [jAd]))
theorem open_nil (t : Nat → Nat) (l : List UInt8) (hg : AC Tryz.prog 55 [.sl (byA l), .sc (.int .i64 0), .sc (tabV t)] (fun r => r = .s (.tu [.sl (byA []), .sc (.int .i64 (l.length : Int)), .sc (.int .i64 0)]))) : AC Tryz.prog 15 [.sc (tabV t), .sl (byA l)] (fun r => r = .s (.tu [zN.av, AI 0, AI 5])) := by
  refine AC.of' 91 3 Tryz.func15 rfl ?_; change AW _ _ _ _ [TK.mk 0 .off, TK.mk 0 .off, TK.mk 0 .off]; refine AW.g (AL.oq (AOpB.op (jA7 0 rfl rfl rfl ?_))); refine AL.n ?_; refine AL.oq (AOpB.op (oA 1 jA2 ?_)); refine AL.n ?_; (iterate 2 refine AL.ra ?_); refine AL.nil (AW.g (AL.rm ?_)); refine AL.r (jBq rfl jCU rfl rfl) ?_; refine AL.cl (hg) ?_; refine AL.n ?_; refine AL.rm ?_; refine AL.r qe ?_; refine AL.r qe ?_; refine AL.r qe ?_; (iterate 3 refine AL.ra ?_); refine AL.nil (AW.seq (AW.g (AL.rm ?_))); refine AL.r qb ?_; refine AL.rm ?_; refine AL.fk (d := 22) rfl (fun h22 => ?_) (fun h22 => ?_)
  ·(exfalso; simp_all)
  refine AL.n ?_; refine AL.ro (jAa rfl rfl) ?_; refine AL.ro (jAa rfl rfl) ?_; refine AL.ro (lN jAC) ?_; refine AL.ro qb ?_; refine AL.r qf ?_; refine AL.nil (AW.cd rfl (fun h27 => ?_) (fun h27 => ?_))
  ·(exfalso; simp_all [jAd])
  refine AW.skip (AW.seq (AW.g (AL.rm ?_))); refine AL.r (lN jAC) ?_; refine AL.r qb ?_; refine AL.rm ?_; refine AL.fk (d := 32) rfl (fun h32 => ?_) (fun h32 => ?_)
  ·refine AL.n ?_; (iterate 6 refine AL.rf ?_); refine AL.r qt ?_; refine AL.nil (AW.cond_t rfl (AW.g (AL.r (qB jCh jA2) ?_))); refine AL.oq (oS jAR ?_); refine AL.n ?_; (iterate 2 refine AL.ra ?_); refine AL.nil (AW.ret ?_); refine r3 jAB ?_; rfl
  (exfalso; simp_all [byA])
theorem jLK (t : Nat → Nat) (l : List UInt8) (c : UInt8) (rest : List UInt8) (hok : okF (c.toNat : Int) = false) (hg : AC Tryz.prog 55 [.sl (byA l), .sc (.int .i64 0), .sc (tabV t)] (fun r => r = .s (.tu [.sl (byA (c :: rest)), .sc (.int .i64 (l.length : Int)), .sc (.int .i64 0)]))) : AC Tryz.prog 15 [.sc (tabV t), .sl (byA l)] (fun r => r = .s (.tu [zN.av, AI 0, AI 5])) := by
  have hc : c.toNat < 256 := UInt8.toNat_lt c
  refine AC.of' 91 3 Tryz.func15 rfl ?_; change AW _ _ _ _ [TK.mk 0 .off, TK.mk 0 .off, TK.mk 0 .off]; refine AW.g (AL.oq (AOpB.op (jA7 0 rfl rfl rfl ?_))); refine AL.n ?_; refine AL.oq (AOpB.op (oA 1 jA2 ?_)); refine AL.n ?_; (iterate 2 refine AL.ra ?_); refine AL.nil (AW.g (AL.rm ?_)); refine AL.r (jBq rfl jCU rfl rfl) ?_; refine AL.cl (hg) ?_; refine AL.n ?_; refine AL.rm ?_; refine AL.r qe ?_; refine AL.r qe ?_; refine AL.r qe ?_; (iterate 3 refine AL.ra ?_); refine AL.nil (AW.seq (AW.g (AL.rm ?_))); refine AL.r qb ?_; refine AL.rm ?_; refine AL.fk (d := 22) rfl (fun h22 => ?_) (fun h22 => ?_)
  ·(exfalso; simp_all)
  refine AL.n ?_; refine AL.ro (jAa rfl rfl) ?_; refine AL.ro (jAa rfl rfl) ?_; refine AL.ro (lN jAC) ?_; refine AL.ro qb ?_; refine AL.r qf ?_; refine AL.nil (AW.cd rfl (fun h27 => ?_) (fun h27 => ?_))
  ·(exfalso; simp_all [jAd])
  refine AW.skip (AW.seq (AW.g (AL.rm ?_))); refine AL.r (lN jAC) ?_; refine AL.r qb ?_; refine AL.rm ?_; refine AL.fk (d := 32) rfl (fun h32 => ?_) (fun h32 => ?_)
  ·(exfalso; simp_all [byA]; (try omega))
  refine AL.n ?_; refine AL.ro (jAa rfl rfl) ?_; refine AL.ro (jAc rfl jAC rfl rfl (n := 0) rfl rfl rfl) ?_; refine AL.ro (jAl rfl ag_5 rfl rfl) ?_; refine AL.ro (jAu rfl jCN ik_3 rfl (IntWalk.i64_in _ (by omega))) ?_; refine AL.on rfl rfl rfl (AOpB.op (jAb (cright_f (c.toNat : Int) hok) rfl (by kernel_rfl) rfl (none) ?_)); rintro r rfl; refine AL.n ?_; refine AL.ro qu ?_; refine AL.r qf ?_; refine AL.nil (AW.cond_t rfl (AW.g (AL.r (qB jCh jA2) ?_))); refine AL.oq (oS jAR ?_); refine AL.n ?_; (iterate 2 refine AL.ra ?_); refine AL.nil (AW.ret ?_); refine r3 jAB ?_; rfl
end Go.Proofs.YtlapcfnmmpbeeaaGreat
