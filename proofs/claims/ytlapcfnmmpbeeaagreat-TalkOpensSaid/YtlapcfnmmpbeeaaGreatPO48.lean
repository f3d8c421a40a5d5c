/- A part of a proof. -/
import Derived.Test.YtlapcfnmmpbeeaaGreatPO40
set_option linter.unusedSimpArgs false
set_option linter.unusedVariables false
namespace Go.Proofs.YtlapcfnmmpbeeaaGreat
set_option maxRecDepth 100000
set_option maxRecDepth 100000
open Go.RowKit
theorem jLT {g : Nat} {ps : List PairD} {s t : jAU} : TK.mk g (owM true 46 2 (ps.map PairD.cs ++ [[AS s, AS t]])) = TK.mk g (owM true 46 2 ((ps ++ [PairD.mk s t]).map PairD.cs)) := by
  rw [List.map_append]; rfl
section
variable (g : Nat) (r : RdrD)
set_option maxHeartbeats 1000000 in
theorem gpr_c (h : r.Ok) : ACo Tryz.prog 146 [.bx 0 g 0] (RdrT g r) (fun y os' => y = .sl ((gprP r).1.map PairD.cs) ∧ os' = RdrT g (gprP r).2) := by
  obtain ⟨hc1, hc2⟩ := jE2 r (most := 6) (by omega)
  have hqn : ((prn r : Nat) : Int) = (jAJ r 6).1 := Int.toNat_of_nonneg hc1
  refine ACo.of' (st0 := [⟨g, .box 138 [.sl (byA r.b), .sc (.int .i64 r.f), .sc (.int .i64 r.at_), .sc (.bool r.bad)]⟩, TK.mk 0 .off, TK.mk 0 .off, TK.mk 0 .off]) 23 3 Tryz.func146 rfl 1 ?_; refine AW.g (AL.ra ?_); refine AL.nil (AW.g (AL.rm ?_)); refine AL.oq (jAi (jEZ g r h 6) [0] ?_); rintro y os' ⟨rfl, rfl⟩; refine AL.noR ?_; refine AL.ra ?_; refine AL.nil (AW.g (AL.ra ?_)); refine AL.nil (AW.seq (AW.g (AL.nil_own 4 3 46 2 rfl rfl ?_))); refine AL.n ?_; (iterate 2 refine AL.rm ?_); refine AL.nil (AW.block (AW.loopM (ι := Nat × Nat) [5, 6, 11, 12, 13, 14, 15, 16, 17, 18, 19, 20, 21, 22] (fun ⟨j, gL⟩ => [(10, AI (j : Int)), (4, .ow 3 gL)]) [1, 2] (fun ⟨j, gL⟩ => [(3, ⟨gL, owM true 46 2 ((jCS j (jAJ r 6).2).1.map PairD.cs)⟩), (0, ⟨g, .box 138 [.sl (byA (jCS j (jAJ r 6).2).2.b), .sc (.int .i64 (jCS j (jAJ r 6).2).2.f), .sc (.int .i64 (jCS j (jAJ r 6).2).2.at_), .sc (.bool (jCS j (jAJ r 6).2).2.bad)]⟩)]) (fun ⟨j, gL⟩ => j ≤ prn r) (fun ⟨j, gL⟩ => prn r - j) ⟨0, 1⟩ (Nat.zero_le _) wk (by simp only [anys, upds, offs, List.set_cons_zero, List.set_cons_succ]; repeat (first | exact Sk.nil _ | refine Sk.same _ ?_ | refine Sk.scr _ (by decide) ?_ | refine Sk.eq _ (by rfl) ?_)) ?_))
  rintro ⟨j, gL⟩ gs hJ; refine AW.nm ?_
  have hto := jGH (h.count 6).ok j
  refine AW.g (AL.r qb ?_); refine AL.nil (AW.seq (AW.cd rfl (fun h11 => ?_) (fun h11 => ?_)))
  ·refine AW.skip (AW.seq (AW.block (AW.g (AL.rm ?_)))); refine AL.oq (jAi (jCY g (jCS j (jAJ r 6).2).2 hto.1.ok 12) [0] ?_); rintro y os' ⟨rfl, rfl⟩; refine AL.noR ?_; refine AL.ra ?_; refine AL.nil (AW.g (AL.rm ?_)); refine AL.oq (jAi (jCY g (jAH (jCS j (jAJ r 6).2).2 12).2 (hto.1.ok.text 12).ok 12) [0] ?_); rintro y os' ⟨rfl, rfl⟩; refine AL.noR ?_; refine AL.ra ?_; refine AL.nil (AW.region ?_); (iterate 3 refine AL.rm ?_); refine AL.r (qB pl_46 jIV) ?_; refine AL.oq (AOpB.op (jCa rfl jMn jIV rfl rfl ?_)); refine AL.no ?_; refine AL.oq (jBy rfl jMn rfl rfl (jBQ rfl) (by have := hto.2; simp only [List.length_map, List.length_cons, List.length_nil]; omega) (by have := hto.2; simp only [List.length_map, List.length_cons, List.length_nil]; omega) ?_)
   refine AL.no ?_; refine AL.ra ?_; refine AL.nil ?_; change AW _ _ _ _ _; refine AW.region ?_; refine AL.r qA ?_; refine AL.rm ?_; refine AL.nil ?_; refine ⟨⟨j + 1, gL + 1⟩, ?_, by first | omega | (simp only []; omega), ?_, ?_⟩
   ·show j + 1 ≤ prn r; omega
   ·exact wk
   simp only [anys, upds, offs, List.set_cons_zero, List.set_cons_succ]; repeat (first | exact Sk.nil _ | refine Sk.same _ ?_ | refine Sk.scr _ (by decide) ?_ | refine Sk.eq _ (by first | rfl | exact jLT) ?_)
  refine AW.exit ?_; change AW _ _ _ _ _; refine AW.g (AL.rm ?_); refine AL.ra ?_; refine AL.nil (AW.ret ?_)
  repeat with_reducible first | refine jAp ?_ | refine jAe ?_
  with_reducible first | refine jAw ?_ | refine jAf ?_
  refine jAY rfl (ResV.tmp rfl) (by first | exact jGx (by decide) rfl | exact jGw (by decide) rfl | exact jGp (by decide) rfl | exact jFS (by decide) rfl | exact resO_setN (by decide) rfl) ?_; obtain rfl : j = prn r := (by omega); exact ⟨rfl, rfl⟩
theorem fget_x (h : r.Ok) : ACo Tryz.prog 147 [.bx 0 g 0] (RdrT g r) (fun y os' => y = .ag [AI ((getF r).1).at_.scope, AS ((getF r).1).at_.group, AS ((getF r).1).at_.name, AI ((getF r).1).kind, AS ((getF r).1).dflt, .sl (csS ((getF r).1).cases), AI ((getF r).1).worth] ∧ os' = RdrT g (getF r).2) := fget_c g r h
theorem jMD (h : r.Ok) : ACo Tryz.prog 115 [.bx 0 g 0] (RdrT g r) (fun y os' => y = .ag [AI (jCb r).1.scope, AS (jCb r).1.group, AS (jCb r).1.name] ∧ os' = RdrT g (jCb r).2) := jJU g r h
theorem jJo (h : r.Ok) : ACo Tryz.prog 60 [.bx 0 g 0] (RdrT g r) (fun y os' => y = .ag [AI (jBo r).1.rep, AI (jBo r).1.n] ∧ os' = RdrT g (jBo r).2) := jG1 g r h
theorem lxF_t {r : RdrD} (h : (numP r).1 = 2 ∨ (numP r).1 = 3) : lxF r = (getF (lx7 r)).1 ∧ lx8 r = (getF (lx7 r)).2 := by
  have e : jFM (numP r).1 = true := by unfold jFM; simpa using h
  unfold lxF lx8
  rw [if_pos e, if_pos e]; exact ⟨rfl, rfl⟩
theorem lxF_f {r : RdrD} (h : ¬ (numP r).1 = 2) (h' : ¬ (numP r).1 = 3) : lxF r = zeroF ∧ lx8 r = lx7 r := by
  have e : ¬ jFM (numP r).1 = true := by unfold jFM; simp [h, h']
  unfold lxF lx8
  rw [if_neg e, if_neg e]; exact ⟨rfl, rfl⟩
set_option maxHeartbeats 4000000 in
theorem xget_t (h : r.Ok) (hk : (numP r).1 = 2 ∨ (numP r).1 = 3) : ACo Tryz.prog 112 [.bx 0 g 0] (RdrT g r) (fun y os' => y = .ag [AI ((getX r).1).kind, AI ((getX r).1).at_.scope, AS ((getX r).1).at_.group, AS ((getX r).1).at_.name, AS ((getX r).1).name, AS ((getX r).1).other, AI ((getX r).1).factor, AI ((getX r).1).field.at_.scope, AS ((getX r).1).field.at_.group, AS ((getX r).1).field.at_.name, AI ((getX r).1).field.kind, AS ((getX r).1).field.dflt, .sl (csS ((getX r).1).field.cases), AI ((getX r).1).field.worth, .sl (((getX r).1).forth.map PairD.cs), .sl (((getX r).1).back.map PairD.cs)] ∧ os' = RdrT g (getX r).2) := by
  have e := lxF_t hk
  have hx : rawX r = ⟨(numP r).1, (jCb (lx1 r)).1, (jAH (lx2 r) 12).1, (jAH (lx3 r) 40).1, (numP (lx4 r)).1, (getF (lx7 r)).1, (gprP (lx5 r)).1, (gprP (lx6 r)).1⟩ := by unfold rawX; rw [e.1]
  have h7 := (jJe h).ok
  refine ACo.of' (st0 := [⟨g, .box 138 [.sl (byA r.b), .sc (.int .i64 r.f), .sc (.int .i64 r.at_), .sc (.bool r.bad)]⟩, TK.mk 0 .off, TK.mk 0 .off]) 45 2 Tryz.func112 rfl 1 ?_; refine AW.g (AL.oq (AOpB.op (oA 1 jBx ?_))); refine AL.no ?_; refine AL.nil (AW.g (AL.oq (AOpB.op (oA 2 jBx ?_)))); refine AL.no ?_; refine AL.nil (AW.g (AL.rm ?_)); refine AL.oq (jAi (jCB g r h) [0] ?_); rintro y os' ⟨rfl, rfl⟩; refine AL.noR ?_; refine AL.r (qa jBf) ?_; refine AL.oq (oS sz_3 ?_); refine AL.no ?_; refine AL.nil (AW.g (AL.rm ?_)); refine AL.oq (jAi (jMD g (lx1 r) (jKe h).ok) [0] ?_); rintro y os' ⟨rfl, rfl⟩; refine AL.noR ?_; refine AL.r (qa jAh) ?_; refine AL.oq (oS jBw ?_); refine AL.no ?_; refine AL.nil (AW.g (AL.rm ?_)); refine AL.oq (jAi (jCY g (lx2 r) (jKK h).ok 12) [0] ?_); rintro y os' ⟨rfl, rfl⟩; refine AL.noR ?_; refine AL.r (qa jAt) ?_; refine AL.oq (oS sz_9 ?_); refine AL.no ?_; refine AL.nil (AW.g (AL.rm ?_)); refine AL.oq (jAi (jCY g (lx3 r) (jKb h).ok 40) [0] ?_); rintro y os' ⟨rfl, rfl⟩; refine AL.noR ?_; refine AL.r (qa jAg) ?_; refine AL.oq (oS sz_9 ?_); refine AL.no ?_; refine AL.nil ?_
  refine AW.g (AL.rm ?_); refine AL.oq (jAi (jCB g (lx4 r) (jKS h).ok) [0] ?_); rintro y os' ⟨rfl, rfl⟩; refine AL.noR ?_; refine AL.r (qa jBm) ?_; refine AL.oq (oS sz_2 ?_); refine AL.no ?_; refine AL.nil (AW.g (AL.rm ?_)); refine AL.oq (jAi (gpr_c g (lx5 r) (jKc h).ok) [0] ?_); rintro y os' ⟨rfl, rfl⟩; refine AL.noR ?_; refine AL.r (qa jAS) ?_; refine AL.oq (oS jCk ?_); refine AL.no ?_; refine AL.nil (AW.g (AL.rm ?_)); refine AL.oq (jAi (gpr_c g (lx6 r) (jJ6 h).ok) [0] ?_); rintro y os' ⟨rfl, rfl⟩; refine AL.noR ?_; refine AL.r (qa jAT) ?_; refine AL.oq (oS jCk ?_); refine AL.no ?_; refine AL.nil (AW.seq (AW.g (AL.r (qa jBf) ?_))); refine AL.r (ql ag_3) ?_; refine AL.r qb ?_; refine AL.rm ?_; refine AL.fk (d := 28) rfl (fun h28 => ?_) (fun h28 => ?_)
  ·refine AL.n ?_; (iterate 3 refine AL.rf ?_); refine AL.r qt ?_; refine AL.nil (AW.cond_t rfl (AW.region (AL.rm ?_))); refine AL.oq (jAi (fget_x g (lx7 r) h7) [0] ?_); rintro y os' ⟨rfl, rfl⟩; refine AL.noR ?_; refine AL.r (qa jB6) ?_; refine AL.oq (oS jDA ?_); refine AL.no ?_; refine AL.nil (AW.seq (AW.g (AL.rm ?_))); refine AL.oq (jAi (jDB g (getF (lx7 r)).2) [0] ?_); rintro y os' ⟨rfl, rfl⟩; refine AL.noR ?_; refine AL.nil (AW.cd rfl (fun h37 => ?_) (fun h37 => ?_))
   ·refine AW.g (AL.r (qB jBT jBx) ?_); refine AL.oq (oS jAL ?_); refine AL.no ?_; refine AL.nil (AW.ret ?_)
    repeat with_reducible first | refine jAp ?_ | refine jAe ?_
    with_reducible first | refine jAw ?_ | refine jAf ?_
    refine jAY rfl (ResV.cells rfl rfl jAn (Nat.le_of_ble_eq_true rfl) rfl) rfl ?_; rw [getX, e.2, if_pos (by simp_all)]; exact ⟨rfl, rfl⟩
   refine AW.skip (AW.seq (AW.g (AL.r (qN jAn) ?_))); refine AL.cl (jF0 ⟨(numP r).1, (jCb (lx1 r)).1, (jAH (lx2 r) 12).1, (jAH (lx3 r) 40).1, (numP (lx4 r)).1, (getF (lx7 r)).1, (gprP (lx5 r)).1, (gprP (lx6 r)).1⟩) ?_; refine AL.no ?_; refine AL.r qu ?_; refine AL.nil (AW.cd rfl (fun h41 => ?_) (fun h41 => ?_))
   ·refine AW.g (AL.rm ?_); refine AL.oq (jAi (jBX g (getF (lx7 r)).2) [0] ?_); rintro y os' ⟨rfl, rfl⟩; refine AL.noR ?_; refine AL.nil (AW.g (AL.r (qB jBT jBx) ?_)); refine AL.oq (oS jAL ?_); refine AL.no ?_; refine AL.nil (AW.ret ?_)
    repeat with_reducible first | refine jAp ?_ | refine jAe ?_
    with_reducible first | refine jAw ?_ | refine jAf ?_
    refine jAY rfl (ResV.cells rfl rfl jAn (Nat.le_of_ble_eq_true rfl) rfl) rfl ?_; rw [getX, e.2, hx, if_neg (by simp_all), if_neg (by simp_all)]; exact ⟨rfl, rfl⟩
   refine AW.skip (AW.g (AL.r (qN jAn) ?_)); refine AL.oq (oS jAL ?_); refine AL.no ?_; refine AL.nil (AW.ret ?_)
   repeat with_reducible first | refine jAp ?_ | refine jAe ?_
   with_reducible first | refine jAw ?_ | refine jAf ?_
   refine jAY rfl (ResV.cells rfl rfl jAn (Nat.le_of_ble_eq_true rfl) rfl) rfl ?_; rw [getX, e.2, hx, if_neg (by simp_all), if_pos (by simp_all)]; exact ⟨rfl, rfl⟩
  refine AL.n ?_; refine AL.ro (qa jBf) ?_; refine AL.ro (ql ag_3) ?_; refine AL.ro qb ?_; refine AL.r qf ?_; refine AL.nil (AW.cd rfl (fun h32 => ?_) (fun h32 => ?_))
  ·refine AW.region (AL.rm ?_); refine AL.oq (jAi (fget_x g (lx7 r) h7) [0] ?_); rintro y os' ⟨rfl, rfl⟩; refine AL.noR ?_; refine AL.r (qa jB6) ?_; refine AL.oq (oS jDA ?_); refine AL.no ?_; refine AL.nil (AW.seq (AW.g (AL.rm ?_))); refine AL.oq (jAi (jDB g (getF (lx7 r)).2) [0] ?_); rintro y os' ⟨rfl, rfl⟩; refine AL.noR ?_; refine AL.nil (AW.cd rfl (fun h37 => ?_) (fun h37 => ?_))
   ·refine AW.g (AL.r (qB jBT jBx) ?_); refine AL.oq (oS jAL ?_); refine AL.no ?_; refine AL.nil (AW.ret ?_)
    repeat with_reducible first | refine jAp ?_ | refine jAe ?_
    with_reducible first | refine jAw ?_ | refine jAf ?_
    refine jAY rfl (ResV.cells rfl rfl jAn (Nat.le_of_ble_eq_true rfl) rfl) rfl ?_; rw [getX, e.2, if_pos (by simp_all)]; exact ⟨rfl, rfl⟩
   refine AW.skip (AW.seq (AW.g (AL.r (qN jAn) ?_))); refine AL.cl (jF0 ⟨(numP r).1, (jCb (lx1 r)).1, (jAH (lx2 r) 12).1, (jAH (lx3 r) 40).1, (numP (lx4 r)).1, (getF (lx7 r)).1, (gprP (lx5 r)).1, (gprP (lx6 r)).1⟩) ?_; refine AL.no ?_; refine AL.r qu ?_; refine AL.nil (AW.cd rfl (fun h41 => ?_) (fun h41 => ?_))
   ·refine AW.g (AL.rm ?_); refine AL.oq (jAi (jBX g (getF (lx7 r)).2) [0] ?_); rintro y os' ⟨rfl, rfl⟩; refine AL.noR ?_; refine AL.nil (AW.g (AL.r (qB jBT jBx) ?_)); refine AL.oq (oS jAL ?_); refine AL.no ?_; refine AL.nil (AW.ret ?_)
    repeat with_reducible first | refine jAp ?_ | refine jAe ?_
    with_reducible first | refine jAw ?_ | refine jAf ?_
    refine jAY rfl (ResV.cells rfl rfl jAn (Nat.le_of_ble_eq_true rfl) rfl) rfl ?_; rw [getX, e.2, hx, if_neg (by simp_all), if_neg (by simp_all)]; exact ⟨rfl, rfl⟩
   refine AW.skip (AW.g (AL.r (qN jAn) ?_)); refine AL.oq (oS jAL ?_); refine AL.no ?_; refine AL.nil (AW.ret ?_)
   repeat with_reducible first | refine jAp ?_ | refine jAe ?_
   with_reducible first | refine jAw ?_ | refine jAf ?_
   refine jAY rfl (ResV.cells rfl rfl jAn (Nat.le_of_ble_eq_true rfl) rfl) rfl ?_; rw [getX, e.2, hx, if_neg (by simp_all), if_pos (by simp_all)]; exact ⟨rfl, rfl⟩
  (exfalso; omega)
set_option maxHeartbeats 4000000 in
theorem xget_f (h : r.Ok) (hk : ¬ (numP r).1 = 2) (hk3 : ¬ (numP r).1 = 3) : ACo Tryz.prog 112 [.bx 0 g 0] (RdrT g r) (fun y os' => y = .ag [AI ((getX r).1).kind, AI ((getX r).1).at_.scope, AS ((getX r).1).at_.group, AS ((getX r).1).at_.name, AS ((getX r).1).name, AS ((getX r).1).other, AI ((getX r).1).factor, AI ((getX r).1).field.at_.scope, AS ((getX r).1).field.at_.group, AS ((getX r).1).field.at_.name, AI ((getX r).1).field.kind, AS ((getX r).1).field.dflt, .sl (csS ((getX r).1).field.cases), AI ((getX r).1).field.worth, .sl (((getX r).1).forth.map PairD.cs), .sl (((getX r).1).back.map PairD.cs)] ∧ os' = RdrT g (getX r).2) := by
  have e := lxF_f hk hk3
  have hx : rawX r = ⟨(numP r).1, (jCb (lx1 r)).1, (jAH (lx2 r) 12).1, (jAH (lx3 r) 40).1, (numP (lx4 r)).1, zeroF, (gprP (lx5 r)).1, (gprP (lx6 r)).1⟩ := by unfold rawX; rw [e.1]
  have h7 := (jJe h).ok
  refine ACo.of' (st0 := [⟨g, .box 138 [.sl (byA r.b), .sc (.int .i64 r.f), .sc (.int .i64 r.at_), .sc (.bool r.bad)]⟩, TK.mk 0 .off, TK.mk 0 .off]) 45 2 Tryz.func112 rfl 1 ?_; refine AW.g (AL.oq (AOpB.op (oA 1 jBx ?_))); refine AL.no ?_; refine AL.nil (AW.g (AL.oq (AOpB.op (oA 2 jBx ?_)))); refine AL.no ?_; refine AL.nil (AW.g (AL.rm ?_)); refine AL.oq (jAi (jCB g r h) [0] ?_); rintro y os' ⟨rfl, rfl⟩; refine AL.noR ?_; refine AL.r (qa jBf) ?_; refine AL.oq (oS sz_3 ?_); refine AL.no ?_; refine AL.nil (AW.g (AL.rm ?_)); refine AL.oq (jAi (jMD g (lx1 r) (jKe h).ok) [0] ?_); rintro y os' ⟨rfl, rfl⟩; refine AL.noR ?_; refine AL.r (qa jAh) ?_; refine AL.oq (oS jBw ?_); refine AL.no ?_; refine AL.nil (AW.g (AL.rm ?_)); refine AL.oq (jAi (jCY g (lx2 r) (jKK h).ok 12) [0] ?_); rintro y os' ⟨rfl, rfl⟩; refine AL.noR ?_; refine AL.r (qa jAt) ?_; refine AL.oq (oS sz_9 ?_); refine AL.no ?_; refine AL.nil (AW.g (AL.rm ?_)); refine AL.oq (jAi (jCY g (lx3 r) (jKb h).ok 40) [0] ?_); rintro y os' ⟨rfl, rfl⟩; refine AL.noR ?_; refine AL.r (qa jAg) ?_; refine AL.oq (oS sz_9 ?_); refine AL.no ?_; refine AL.nil ?_
  refine AW.g (AL.rm ?_); refine AL.oq (jAi (jCB g (lx4 r) (jKS h).ok) [0] ?_); rintro y os' ⟨rfl, rfl⟩; refine AL.noR ?_; refine AL.r (qa jBm) ?_; refine AL.oq (oS sz_2 ?_); refine AL.no ?_; refine AL.nil (AW.g (AL.rm ?_)); refine AL.oq (jAi (gpr_c g (lx5 r) (jKc h).ok) [0] ?_); rintro y os' ⟨rfl, rfl⟩; refine AL.noR ?_; refine AL.r (qa jAS) ?_; refine AL.oq (oS jCk ?_); refine AL.no ?_; refine AL.nil (AW.g (AL.rm ?_)); refine AL.oq (jAi (gpr_c g (lx6 r) (jJ6 h).ok) [0] ?_); rintro y os' ⟨rfl, rfl⟩; refine AL.noR ?_; refine AL.r (qa jAT) ?_; refine AL.oq (oS jCk ?_); refine AL.no ?_; refine AL.nil (AW.seq (AW.g (AL.r (qa jBf) ?_))); refine AL.r (ql ag_3) ?_; refine AL.r qb ?_; refine AL.rm ?_; refine AL.fk (d := 28) rfl (fun h28 => ?_) (fun h28 => ?_)
  ·(exfalso; omega)
  refine AL.n ?_; refine AL.ro (qa jBf) ?_; refine AL.ro (ql ag_3) ?_; refine AL.ro qb ?_; refine AL.r qf ?_; refine AL.nil (AW.cd rfl (fun h32 => ?_) (fun h32 => ?_))
  ·(exfalso; omega)
  refine AW.skip (AW.seq (AW.g (AL.rm ?_))); refine AL.oq (jAi (jDB g (lx7 r)) [0] ?_); rintro y os' ⟨rfl, rfl⟩; refine AL.noR ?_; refine AL.nil (AW.cd rfl (fun h37 => ?_) (fun h37 => ?_))
  ·refine AW.g (AL.r (qB jBT jBx) ?_); refine AL.oq (oS jAL ?_); refine AL.no ?_; refine AL.nil (AW.ret ?_)
   repeat with_reducible first | refine jAp ?_ | refine jAe ?_
   with_reducible first | refine jAw ?_ | refine jAf ?_
   refine jAY rfl (ResV.cells rfl rfl jAn (Nat.le_of_ble_eq_true rfl) rfl) rfl ?_; rw [getX, e.2, if_pos (by simp_all)]; exact ⟨rfl, rfl⟩
  refine AW.skip (AW.seq (AW.g (AL.r (qN jAn) ?_))); refine AL.cl (jF0 ⟨(numP r).1, (jCb (lx1 r)).1, (jAH (lx2 r) 12).1, (jAH (lx3 r) 40).1, (numP (lx4 r)).1, zeroF, (gprP (lx5 r)).1, (gprP (lx6 r)).1⟩) ?_; refine AL.no ?_; refine AL.r qu ?_; refine AL.nil (AW.cd rfl (fun h41 => ?_) (fun h41 => ?_))
  ·refine AW.g (AL.rm ?_); refine AL.oq (jAi (jBX g (lx7 r)) [0] ?_); rintro y os' ⟨rfl, rfl⟩; refine AL.noR ?_; refine AL.nil (AW.g (AL.r (qB jBT jBx) ?_)); refine AL.oq (oS jAL ?_); refine AL.no ?_; refine AL.nil (AW.ret ?_)
   repeat with_reducible first | refine jAp ?_ | refine jAe ?_
   with_reducible first | refine jAw ?_ | refine jAf ?_
   refine jAY rfl (ResV.cells rfl rfl jAn (Nat.le_of_ble_eq_true rfl) rfl) rfl ?_; rw [getX, e.2, hx, if_neg (by simp_all), if_neg (by simp_all)]; exact ⟨rfl, rfl⟩
  refine AW.skip (AW.g (AL.r (qN jAn) ?_)); refine AL.oq (oS jAL ?_); refine AL.no ?_; refine AL.nil (AW.ret ?_)
  repeat with_reducible first | refine jAp ?_ | refine jAe ?_
  with_reducible first | refine jAw ?_ | refine jAf ?_
  refine jAY rfl (ResV.cells rfl rfl jAn (Nat.le_of_ble_eq_true rfl) rfl) rfl ?_; rw [getX, e.2, hx, if_neg (by simp_all), if_pos (by simp_all)]; exact ⟨rfl, rfl⟩
theorem jDC (h : r.Ok) : ACo Tryz.prog 112 [.bx 0 g 0] (RdrT g r) (fun y os' => y = .ag [AI ((getX r).1).kind, AI ((getX r).1).at_.scope, AS ((getX r).1).at_.group, AS ((getX r).1).at_.name, AS ((getX r).1).name, AS ((getX r).1).other, AI ((getX r).1).factor, AI ((getX r).1).field.at_.scope, AS ((getX r).1).field.at_.group, AS ((getX r).1).field.at_.name, AI ((getX r).1).field.kind, AS ((getX r).1).field.dflt, .sl (csS ((getX r).1).field.cases), AI ((getX r).1).field.worth, .sl (((getX r).1).forth.map PairD.cs), .sl (((getX r).1).back.map PairD.cs)] ∧ os' = RdrT g (getX r).2) := by
  by_cases h2 : (numP r).1 = 2
  · exact xget_t g r h (.inl h2)
  by_cases h3 : (numP r).1 = 3
  · exact xget_t g r h (.inr h3)
  exact xget_f g r h h2 h3
set_option maxHeartbeats 4000000 in
theorem eget_c (h : r.Ok) : ACo Tryz.prog 62 [.bx 0 g 0] (RdrT g r) (fun y os' => y = .ag [AI ((getE r).1).id.rep, AI ((getE r).1).id.n, AI ((getE r).1).par.rep, AI ((getE r).1).par.n, AI (((getE r).1).lens).kind, AI (((getE r).1).lens).at_.scope, AS (((getE r).1).lens).at_.group, AS (((getE r).1).lens).at_.name, AS (((getE r).1).lens).name, AS (((getE r).1).lens).other, AI (((getE r).1).lens).factor, AI (((getE r).1).lens).field.at_.scope, AS (((getE r).1).lens).field.at_.group, AS (((getE r).1).lens).field.at_.name, AI (((getE r).1).lens).field.kind, AS (((getE r).1).lens).field.dflt, .sl (csS (((getE r).1).lens).field.cases), AI (((getE r).1).lens).field.worth, .sl ((((getE r).1).lens).forth.map PairD.cs), .sl ((((getE r).1).lens).back.map PairD.cs)] ∧ os' = RdrT g (getE r).2) := by
  refine ACo.of' (st0 := [⟨g, .box 138 [.sl (byA r.b), .sc (.int .i64 r.f), .sc (.int .i64 r.at_), .sc (.bool r.bad)]⟩, TK.mk 0 .off, TK.mk 0 .off, TK.mk 0 .off, TK.mk 0 .off]) 24 4 Tryz.func62 rfl 1 ?_; refine AW.g (AL.oq (AOpB.op (oA 1 jBv ?_))); refine AL.no ?_; refine AL.nil (AW.g (AL.rm ?_)); refine AL.oq (jAi (jJo g r h) [0] ?_); rintro y os' ⟨rfl, rfl⟩; refine AL.noR ?_; refine AL.oq (AOpB.op (oA 2 jDZ ?_)); refine AL.no ?_; refine AL.oq (oS jF8 ?_); refine AL.no ?_; refine AL.nil (AW.g (AL.rm ?_)); refine AL.oq (jAi (jJo g (ex1 r) (jMz h).ok) [0] ?_); rintro y os' ⟨rfl, rfl⟩; refine AL.noR ?_; refine AL.oq (AOpB.op (oA 3 jDZ ?_)); refine AL.no ?_; refine AL.oq (oS jF8 ?_); refine AL.no ?_; refine AL.nil (AW.seq (AW.drawA (by kernel_rfl) ?_)); refine ADA.r 2 rfl (ARdP.a (jAr rfl rfl)) rfl ?_; refine ADA.b ?_; apply ADB.cut
  ·intro key3_1; refine ADB.all (is := [0, 1, 3, 5]) (by kernel_rfl) (by simp) ?_; intro i hi; simp only [List.mem_cons, List.not_mem_nil, or_false] at hi
   rcases hi with rfl | rfl | rfl | rfl
   ·refine ⟨_, rfl, rfl, AOpB.op (ARd.opB (qN jAN) ?_)⟩; refine ADB.n ?_; refine ADB.all (is := [1, 3, 5]) (by kernel_rfl) (by simp) ?_; intro i hi; simp only [List.mem_cons, List.not_mem_nil, or_false] at hi
    rcases hi with rfl | rfl | rfl
    ·refine ⟨_, rfl, rfl, AOpB.op (ARd.opB (qN jAN) ?_)⟩; refine ADB.n ?_; refine ADB.all (is := [3, 5]) (by kernel_rfl) (by simp) ?_; intro i hi; simp only [List.mem_cons, List.not_mem_nil, or_false] at hi
     rcases hi with rfl | rfl
     ·refine ⟨_, rfl, rfl, jAi (jDC g (ex2 r) (jDc h).ok) [0] ?_⟩; rintro y os' ⟨rfl, rfl⟩; refine ADB.noR ?_; refine ADB.r 4 rfl (jA6 rfl jCO jBv rfl rfl) rfl ?_; refine ADB.mv 5 rfl (AOpB.op (oA 4 jBv ?_)); refine ADB.n ?_; exact key3_1
     refine ⟨_, rfl, rfl, AOpB.op (oA 4 jBv ?_)⟩; refine ADB.n ?_; refine ADB.mv 3 rfl (jAi (jDC g (ex2 r) (jDc h).ok) [0] ?_); rintro y os' ⟨rfl, rfl⟩; refine ADB.noR ?_; refine ADB.r 4 rfl (jA6 rfl jCO jBv rfl rfl) rfl ?_; exact ADB.use key3_1
    ·refine ⟨_, rfl, rfl, jAi (jDC g (ex2 r) (jDc h).ok) [0] ?_⟩; rintro y os' ⟨rfl, rfl⟩; refine ADB.noR ?_; refine ADB.all (is := [1, 5]) (by kernel_rfl) (by simp) ?_; intro i hi; simp only [List.mem_cons, List.not_mem_nil, or_false] at hi
     rcases hi with rfl | rfl
     ·refine ⟨_, rfl, rfl, AOpB.op (ARd.opB (qN jAN) ?_)⟩; refine ADB.n ?_; refine ADB.r 4 rfl (jA6 rfl jCO jBv rfl rfl) rfl ?_; refine ADB.mv 5 rfl (AOpB.op (oA 4 jBv ?_)); refine ADB.n ?_; exact ADB.use key3_1
     refine ⟨_, rfl, rfl, AOpB.op (oA 4 jBv ?_)⟩; refine ADB.n ?_; refine ADB.mv 1 rfl (AOpB.op (ARd.opB (qN jAN) ?_)); refine ADB.n ?_; refine ADB.r 4 rfl (jA6 rfl jCO jBv rfl rfl) rfl ?_; exact ADB.use key3_1
    refine ⟨_, rfl, rfl, AOpB.op (oA 4 jBv ?_)⟩; refine ADB.n ?_; refine ADB.all (is := [1, 3]) (by kernel_rfl) (by simp) ?_; intro i hi; simp only [List.mem_cons, List.not_mem_nil, or_false] at hi
    rcases hi with rfl | rfl
    ·refine ⟨_, rfl, rfl, AOpB.op (ARd.opB (qN jAN) ?_)⟩; refine ADB.n ?_; refine ADB.mv 3 rfl (jAi (jDC g (ex2 r) (jDc h).ok) [0] ?_); rintro y os' ⟨rfl, rfl⟩; refine ADB.noR ?_; refine ADB.r 4 rfl (jA6 rfl jCO jBv rfl rfl) rfl ?_; exact ADB.use key3_1
    refine ⟨_, rfl, rfl, jAi (jDC g (ex2 r) (jDc h).ok) [0] ?_⟩; rintro y os' ⟨rfl, rfl⟩; refine ADB.noR ?_; refine ADB.mv 1 rfl (AOpB.op (ARd.opB (qN jAN) ?_)); refine ADB.n ?_; refine ADB.r 4 rfl (jA6 rfl jCO jBv rfl rfl) rfl ?_; exact ADB.use key3_1
   ·refine ⟨_, rfl, rfl, AOpB.op (ARd.opB (qN jAN) ?_)⟩; refine ADB.n ?_; refine ADB.all (is := [0, 3, 5]) (by kernel_rfl) (by simp) ?_; intro i hi; simp only [List.mem_cons, List.not_mem_nil, or_false] at hi
    rcases hi with rfl | rfl | rfl
    ·refine ⟨_, rfl, rfl, AOpB.op (ARd.opB (qN jAN) ?_)⟩; refine ADB.n ?_; refine ADB.all (is := [3, 5]) (by kernel_rfl) (by simp) ?_; intro i hi; simp only [List.mem_cons, List.not_mem_nil, or_false] at hi
     rcases hi with rfl | rfl
     ·refine ⟨_, rfl, rfl, jAi (jDC g (ex2 r) (jDc h).ok) [0] ?_⟩; rintro y os' ⟨rfl, rfl⟩; refine ADB.noR ?_; refine ADB.r 4 rfl (jA6 rfl jCO jBv rfl rfl) rfl ?_; refine ADB.mv 5 rfl (AOpB.op (oA 4 jBv ?_)); refine ADB.n ?_; exact ADB.use key3_1
     refine ⟨_, rfl, rfl, AOpB.op (oA 4 jBv ?_)⟩; refine ADB.n ?_; refine ADB.mv 3 rfl (jAi (jDC g (ex2 r) (jDc h).ok) [0] ?_); rintro y os' ⟨rfl, rfl⟩; refine ADB.noR ?_; refine ADB.r 4 rfl (jA6 rfl jCO jBv rfl rfl) rfl ?_; exact ADB.use key3_1
    ·refine ⟨_, rfl, rfl, jAi (jDC g (ex2 r) (jDc h).ok) [0] ?_⟩; rintro y os' ⟨rfl, rfl⟩; refine ADB.noR ?_; refine ADB.all (is := [0, 5]) (by kernel_rfl) (by simp) ?_; intro i hi; simp only [List.mem_cons, List.not_mem_nil, or_false] at hi
     rcases hi with rfl | rfl
     ·refine ⟨_, rfl, rfl, AOpB.op (ARd.opB (qN jAN) ?_)⟩; refine ADB.n ?_; refine ADB.r 4 rfl (jA6 rfl jCO jBv rfl rfl) rfl ?_; refine ADB.mv 5 rfl (AOpB.op (oA 4 jBv ?_)); refine ADB.n ?_; exact ADB.use key3_1
     refine ⟨_, rfl, rfl, AOpB.op (oA 4 jBv ?_)⟩; refine ADB.n ?_; refine ADB.mv 0 rfl (AOpB.op (ARd.opB (qN jAN) ?_)); refine ADB.n ?_; refine ADB.r 4 rfl (jA6 rfl jCO jBv rfl rfl) rfl ?_; exact ADB.use key3_1
    refine ⟨_, rfl, rfl, AOpB.op (oA 4 jBv ?_)⟩; refine ADB.n ?_; refine ADB.all (is := [0, 3]) (by kernel_rfl) (by simp) ?_; intro i hi; simp only [List.mem_cons, List.not_mem_nil, or_false] at hi
    rcases hi with rfl | rfl
    ·refine ⟨_, rfl, rfl, AOpB.op (ARd.opB (qN jAN) ?_)⟩; refine ADB.n ?_; refine ADB.mv 3 rfl (jAi (jDC g (ex2 r) (jDc h).ok) [0] ?_); rintro y os' ⟨rfl, rfl⟩; refine ADB.noR ?_; refine ADB.r 4 rfl (jA6 rfl jCO jBv rfl rfl) rfl ?_; exact ADB.use key3_1
    refine ⟨_, rfl, rfl, jAi (jDC g (ex2 r) (jDc h).ok) [0] ?_⟩; rintro y os' ⟨rfl, rfl⟩; refine ADB.noR ?_; refine ADB.mv 0 rfl (AOpB.op (ARd.opB (qN jAN) ?_)); refine ADB.n ?_; refine ADB.r 4 rfl (jA6 rfl jCO jBv rfl rfl) rfl ?_; exact ADB.use key3_1
   ·refine ⟨_, rfl, rfl, jAi (jDC g (ex2 r) (jDc h).ok) [0] ?_⟩; rintro y os' ⟨rfl, rfl⟩; refine ADB.noR ?_; refine ADB.all (is := [0, 1, 5]) (by kernel_rfl) (by simp) ?_; intro i hi; simp only [List.mem_cons, List.not_mem_nil, or_false] at hi
    rcases hi with rfl | rfl | rfl
    ·refine ⟨_, rfl, rfl, AOpB.op (ARd.opB (qN jAN) ?_)⟩; refine ADB.n ?_; refine ADB.all (is := [1, 5]) (by kernel_rfl) (by simp) ?_; intro i hi; simp only [List.mem_cons, List.not_mem_nil, or_false] at hi
     rcases hi with rfl | rfl
     ·refine ⟨_, rfl, rfl, AOpB.op (ARd.opB (qN jAN) ?_)⟩; refine ADB.n ?_; refine ADB.r 4 rfl (jA6 rfl jCO jBv rfl rfl) rfl ?_; refine ADB.mv 5 rfl (AOpB.op (oA 4 jBv ?_)); refine ADB.n ?_; exact ADB.use key3_1
     refine ⟨_, rfl, rfl, AOpB.op (oA 4 jBv ?_)⟩; refine ADB.n ?_; refine ADB.mv 1 rfl (AOpB.op (ARd.opB (qN jAN) ?_)); refine ADB.n ?_; refine ADB.r 4 rfl (jA6 rfl jCO jBv rfl rfl) rfl ?_; exact ADB.use key3_1
    ·refine ⟨_, rfl, rfl, AOpB.op (ARd.opB (qN jAN) ?_)⟩; refine ADB.n ?_; refine ADB.all (is := [0, 5]) (by kernel_rfl) (by simp) ?_; intro i hi; simp only [List.mem_cons, List.not_mem_nil, or_false] at hi
     rcases hi with rfl | rfl
     ·refine ⟨_, rfl, rfl, AOpB.op (ARd.opB (qN jAN) ?_)⟩; refine ADB.n ?_; refine ADB.r 4 rfl (jA6 rfl jCO jBv rfl rfl) rfl ?_; refine ADB.mv 5 rfl (AOpB.op (oA 4 jBv ?_)); refine ADB.n ?_; exact ADB.use key3_1
     refine ⟨_, rfl, rfl, AOpB.op (oA 4 jBv ?_)⟩; refine ADB.n ?_; refine ADB.mv 0 rfl (AOpB.op (ARd.opB (qN jAN) ?_)); refine ADB.n ?_; refine ADB.r 4 rfl (jA6 rfl jCO jBv rfl rfl) rfl ?_; exact ADB.use key3_1
    refine ⟨_, rfl, rfl, AOpB.op (oA 4 jBv ?_)⟩; refine ADB.n ?_; refine ADB.all (is := [0, 1]) (by kernel_rfl) (by simp) ?_; intro i hi; simp only [List.mem_cons, List.not_mem_nil, or_false] at hi
    rcases hi with rfl | rfl
    ·refine ⟨_, rfl, rfl, AOpB.op (ARd.opB (qN jAN) ?_)⟩; refine ADB.n ?_; refine ADB.mv 1 rfl (AOpB.op (ARd.opB (qN jAN) ?_)); refine ADB.n ?_; refine ADB.r 4 rfl (jA6 rfl jCO jBv rfl rfl) rfl ?_; exact ADB.use key3_1
    refine ⟨_, rfl, rfl, AOpB.op (ARd.opB (qN jAN) ?_)⟩; refine ADB.n ?_; refine ADB.mv 0 rfl (AOpB.op (ARd.opB (qN jAN) ?_)); refine ADB.n ?_; refine ADB.r 4 rfl (jA6 rfl jCO jBv rfl rfl) rfl ?_; exact ADB.use key3_1
   refine ⟨_, rfl, rfl, AOpB.op (oA 4 jBv ?_)⟩; refine ADB.n ?_; refine ADB.all (is := [0, 1, 3]) (by kernel_rfl) (by simp) ?_; intro i hi; simp only [List.mem_cons, List.not_mem_nil, or_false] at hi
   rcases hi with rfl | rfl | rfl
   ·refine ⟨_, rfl, rfl, AOpB.op (ARd.opB (qN jAN) ?_)⟩; refine ADB.n ?_; refine ADB.all (is := [1, 3]) (by kernel_rfl) (by simp) ?_; intro i hi; simp only [List.mem_cons, List.not_mem_nil, or_false] at hi
    rcases hi with rfl | rfl
    ·refine ⟨_, rfl, rfl, AOpB.op (ARd.opB (qN jAN) ?_)⟩; refine ADB.n ?_; refine ADB.mv 3 rfl (jAi (jDC g (ex2 r) (jDc h).ok) [0] ?_); rintro y os' ⟨rfl, rfl⟩; refine ADB.noR ?_; refine ADB.r 4 rfl (jA6 rfl jCO jBv rfl rfl) rfl ?_; exact ADB.use key3_1
    refine ⟨_, rfl, rfl, jAi (jDC g (ex2 r) (jDc h).ok) [0] ?_⟩; rintro y os' ⟨rfl, rfl⟩; refine ADB.noR ?_; refine ADB.mv 1 rfl (AOpB.op (ARd.opB (qN jAN) ?_)); refine ADB.n ?_; refine ADB.r 4 rfl (jA6 rfl jCO jBv rfl rfl) rfl ?_; exact ADB.use key3_1
   ·refine ⟨_, rfl, rfl, AOpB.op (ARd.opB (qN jAN) ?_)⟩; refine ADB.n ?_; refine ADB.all (is := [0, 3]) (by kernel_rfl) (by simp) ?_; intro i hi; simp only [List.mem_cons, List.not_mem_nil, or_false] at hi
    rcases hi with rfl | rfl
    ·refine ⟨_, rfl, rfl, AOpB.op (ARd.opB (qN jAN) ?_)⟩; refine ADB.n ?_; refine ADB.mv 3 rfl (jAi (jDC g (ex2 r) (jDc h).ok) [0] ?_); rintro y os' ⟨rfl, rfl⟩; refine ADB.noR ?_; refine ADB.r 4 rfl (jA6 rfl jCO jBv rfl rfl) rfl ?_; exact ADB.use key3_1
    refine ⟨_, rfl, rfl, jAi (jDC g (ex2 r) (jDc h).ok) [0] ?_⟩; rintro y os' ⟨rfl, rfl⟩; refine ADB.noR ?_; refine ADB.mv 0 rfl (AOpB.op (ARd.opB (qN jAN) ?_)); refine ADB.n ?_; refine ADB.r 4 rfl (jA6 rfl jCO jBv rfl rfl) rfl ?_; exact ADB.use key3_1
   refine ⟨_, rfl, rfl, jAi (jDC g (ex2 r) (jDc h).ok) [0] ?_⟩; rintro y os' ⟨rfl, rfl⟩; refine ADB.noR ?_; refine ADB.all (is := [0, 1]) (by kernel_rfl) (by simp) ?_; intro i hi; simp only [List.mem_cons, List.not_mem_nil, or_false] at hi
   rcases hi with rfl | rfl
   ·refine ⟨_, rfl, rfl, AOpB.op (ARd.opB (qN jAN) ?_)⟩; refine ADB.n ?_; refine ADB.mv 1 rfl (AOpB.op (ARd.opB (qN jAN) ?_)); refine ADB.n ?_; refine ADB.r 4 rfl (jA6 rfl jCO jBv rfl rfl) rfl ?_; exact ADB.use key3_1
   refine ⟨_, rfl, rfl, AOpB.op (ARd.opB (qN jAN) ?_)⟩; refine ADB.n ?_; refine ADB.mv 0 rfl (AOpB.op (ARd.opB (qN jAN) ?_)); refine ADB.n ?_; refine ADB.r 4 rfl (jA6 rfl jCO jBv rfl rfl) rfl ?_; exact ADB.use key3_1
  refine ADB.mv 6 rfl (oS jFJ ?_); refine ADB.n ?_; refine ADB.done (by kernel_rfl) ?_; change AW _ _ _ _ _; refine AW.seq (AW.g (AL.rm ?_)); refine AL.oq (jAi (jDB g (ex3 r)) [0] ?_); rintro y os' ⟨rfl, rfl⟩; refine AL.noR ?_; refine AL.nil (AW.cd rfl (fun h16 => ?_) (fun h16 => ?_))
  ·refine AW.g (AL.r (qB jCO jBv) ?_); refine AL.oq (oS jFJ ?_); refine AL.no ?_; refine AL.nil (AW.ret ?_)
   repeat with_reducible first | refine jAp ?_ | refine jAe ?_
   with_reducible first | refine jAw ?_ | refine jAf ?_
   refine jAY rfl (ResV.cells rfl rfl jDJ (Nat.le_of_ble_eq_true rfl) rfl) rfl ?_; rw [getE, if_pos (by assumption)]; exact ⟨rfl, rfl⟩
  refine AW.skip (AW.seq (AW.g (AL.r (qN jDJ) ?_))); refine AL.cl (jMK (rawE r)) ?_; refine AL.no ?_; refine AL.r qu ?_; refine AL.nil (AW.cd rfl (fun h20 => ?_) (fun h20 => ?_))
  ·refine AW.g (AL.rm ?_); refine AL.oq (jAi (jBX g (ex3 r)) [0] ?_); rintro y os' ⟨rfl, rfl⟩; refine AL.noR ?_; refine AL.nil (AW.g (AL.r (qB jCO jBv) ?_)); refine AL.oq (oS jFJ ?_); refine AL.no ?_; refine AL.nil (AW.ret ?_)
   repeat with_reducible first | refine jAp ?_ | refine jAe ?_
   with_reducible first | refine jAw ?_ | refine jAf ?_
   refine jAY rfl (ResV.cells rfl rfl jDJ (Nat.le_of_ble_eq_true rfl) rfl) rfl ?_; rw [getE, if_neg (by simp_all), if_neg (by simp_all)]; exact ⟨rfl, rfl⟩
  refine AW.skip (AW.g (AL.r (qN jDJ) ?_)); refine AL.oq (oS jFJ ?_); refine AL.no ?_; refine AL.nil (AW.ret ?_)
  repeat with_reducible first | refine jAp ?_ | refine jAe ?_
  with_reducible first | refine jAw ?_ | refine jAf ?_
  refine jAY rfl (ResV.cells rfl rfl jDJ (Nat.le_of_ble_eq_true rfl) rfl) rfl ?_; rw [getE, if_neg (by simp_all), if_pos (by simp_all)]; exact ⟨rfl, rfl⟩
theorem rvec_c (h : r.Ok) : ACo Tryz.prog 58 [.bx 0 g 0] (RdrT g r) (fun y os' => y = .ag [AI (jCp r).1.a, AI (jCp r).1.b, AI (jCp r).1.c, AI (jCp r).1.d, AI (jCp r).1.e, AI (jCp r).1.f] ∧ os' = RdrT g (jCp r).2) := by
  refine ACo.of' (st0 := [⟨g, .box 138 [.sl (byA r.b), .sc (.int .i64 r.f), .sc (.int .i64 r.at_), .sc (.bool r.bad)]⟩, TK.mk 0 .off, TK.mk 0 .off]) 16 2 Tryz.func58 rfl 1 ?_; refine AW.g (AL.oq (AOpB.op (oA 1 jFf ?_))); refine AL.no ?_; refine AL.nil (AW.g (AL.oq (AOpB.op (oA 2 jFf ?_)))); refine AL.no ?_; refine AL.nil (AW.seq (AW.g (AL.rm ?_))); refine AL.nil (AW.block (AW.unroll 7 ?_)); change AW _ _ _ _ _; refine AW.g (AL.r qb ?_); refine AL.nil (AW.seq (AW.cond_t rfl (AW.skip (AW.seq (AW.block (AW.g (AL.rm ?_))))))); refine AL.ra ?_; refine AL.nil (AW.region ?_); (iterate 2 refine AL.rm ?_); refine AL.oq (jAi (jCB g r h) [0] ?_); rintro y os' ⟨rfl, rfl⟩; refine AL.noR ?_; refine AL.r (jAx 0 rfl jBS rfl rfl rfl) ?_; refine AL.oq (oS sz_3 ?_); refine AL.no ?_; refine AL.nil (AW.region (AL.r (jAj rfl rfl rfl (rfl : _ = (1 : Int))) ?_)); refine AL.rm ?_; refine AL.nil (AW.g (AL.r qb ?_)); refine AL.nil (AW.seq (AW.cond_t rfl (AW.skip (AW.seq (AW.block (AW.g (AL.rm ?_))))))); refine AL.ra ?_; refine AL.nil ?_
  change AW _ _ _ _ _; refine AW.region ?_; (iterate 2 refine AL.rm ?_); refine AL.oq (jAi (jCB g (vn r 1) (jI1 h 1).ok) [0] ?_); rintro y os' ⟨rfl, rfl⟩; refine AL.noR ?_; refine AL.r (jAx 1 rfl jBS rfl rfl rfl) ?_; refine AL.oq (oS sz_3 ?_); refine AL.no ?_; refine AL.nil (AW.region (AL.r (jAj rfl rfl rfl (rfl : _ = (2 : Int))) ?_)); refine AL.rm ?_; refine AL.nil (AW.g (AL.r qb ?_)); refine AL.nil (AW.seq (AW.cond_t rfl (AW.skip (AW.seq (AW.block (AW.g (AL.rm ?_))))))); refine AL.ra ?_; refine AL.nil (AW.region (AL.rm ?_)); refine AL.rm ?_; refine AL.oq (jAi (jCB g (vn r 2) (jI1 h 2).ok) [0] ?_); rintro y os' ⟨rfl, rfl⟩; refine AL.noR ?_; refine AL.r (jAx 2 rfl jBS rfl rfl rfl) ?_; refine AL.oq (oS sz_3 ?_); refine AL.no ?_; refine AL.nil (AW.region (AL.r (jAj rfl rfl rfl (rfl : _ = (3 : Int))) ?_)); refine AL.rm ?_; refine AL.nil (AW.g (AL.r qb ?_)); refine AL.nil (AW.seq (AW.cond_t rfl (AW.skip (AW.seq (AW.block (AW.g (AL.rm ?_))))))); refine AL.ra ?_; refine AL.nil (AW.region ?_); (iterate 2 refine AL.rm ?_); refine AL.oq (jAi (jCB g (vn r 3) (jI1 h 3).ok) [0] ?_)
  rintro y os' ⟨rfl, rfl⟩; refine AL.noR ?_; refine AL.r (jAx 3 rfl jBS rfl rfl rfl) ?_; refine AL.oq (oS sz_3 ?_); refine AL.no ?_; refine AL.nil (AW.region (AL.r (jAj rfl rfl rfl (rfl : _ = (4 : Int))) ?_)); refine AL.rm ?_; refine AL.nil (AW.g (AL.r qb ?_)); refine AL.nil (AW.seq (AW.cond_t rfl (AW.skip (AW.seq (AW.block (AW.g (AL.rm ?_))))))); refine AL.ra ?_; refine AL.nil (AW.region ?_); (iterate 2 refine AL.rm ?_); refine AL.oq (jAi (jCB g (vn r 4) (jI1 h 4).ok) [0] ?_); rintro y os' ⟨rfl, rfl⟩; refine AL.noR ?_; refine AL.r (jAx 4 rfl jBS rfl rfl rfl) ?_; refine AL.oq (oS sz_3 ?_); refine AL.no ?_; refine AL.nil (AW.region (AL.r (jAj rfl rfl rfl (rfl : _ = (5 : Int))) ?_)); refine AL.rm ?_; refine AL.nil (AW.g (AL.r qb ?_)); refine AL.nil (AW.seq (AW.cond_t rfl (AW.skip (AW.seq (AW.block (AW.g (AL.rm ?_))))))); refine AL.ra ?_; refine AL.nil (AW.region ?_); (iterate 2 refine AL.rm ?_); refine AL.oq (jAi (jCB g (vn r 5) (jI1 h 5).ok) [0] ?_); rintro y os' ⟨rfl, rfl⟩; refine AL.noR ?_; refine AL.r (jAx 5 rfl jBS rfl rfl rfl) ?_; refine AL.oq (oS sz_3 ?_); refine AL.no ?_
  refine AL.nil (AW.region (AL.r (jAj rfl rfl rfl (rfl : _ = (6 : Int))) ?_)); refine AL.rm ?_; refine AL.nil (AW.g (AL.r qb ?_)); refine AL.nil (AW.seq (AW.cond_f rfl (AW.exit ?_))); change AW _ _ _ _ _; refine AW.seq (AW.g (AL.rm ?_)); refine AL.oq (jAi (jDB g (vn r 6)) [0] ?_); rintro y os' ⟨rfl, rfl⟩; refine AL.noR ?_; refine AL.nil (AW.cd rfl (fun h14 => ?_) (fun h14 => ?_))
  ·refine AW.g (AL.r (jCE rfl jBS jFf rfl rfl) ?_); refine AL.oq (oS jGN ?_); refine AL.no ?_; refine AL.nil (AW.ret ?_)
   repeat with_reducible first | refine jAp ?_ | refine jAe ?_
   with_reducible first | refine jAw ?_ | refine jAf ?_
   refine jAY rfl (ResV.cells rfl rfl jDW (Nat.le_of_ble_eq_true rfl) rfl) rfl ?_; rw [jCp, if_pos (by assumption)]; exact ⟨rfl, rfl⟩
  refine AW.skip (AW.g (AL.r (qN jDW) ?_)); refine AL.oq (oS jGN ?_); refine AL.no ?_; refine AL.nil (AW.ret ?_)
  repeat with_reducible first | refine jAp ?_ | refine jAe ?_
  with_reducible first | refine jAw ?_ | refine jAf ?_
  refine jAY rfl (ResV.cells rfl rfl jDW (Nat.le_of_ble_eq_true rfl) rfl) rfl ?_; rw [jCp, if_neg (by simp_all)]; exact ⟨rfl, rfl⟩
theorem jFx (h : r.Ok) : ACo Tryz.prog 57 [.bx 0 g 0] (RdrT g r) (fun y os' => y = AI (smP (numP r).1) ∧ os' = RdrT g (numP r).2) := by
  refine ACo.of' (st0 := [⟨g, .box 138 [.sl (byA r.b), .sc (.int .i64 r.f), .sc (.int .i64 r.at_), .sc (.bool r.bad)]⟩]) 12 0 Tryz.func57 rfl 1 ?_; refine AW.g (AL.ra ?_); refine AL.nil (AW.g (AL.rm ?_)); refine AL.oq (jAi (jCB g r h) [0] ?_); rintro y os' ⟨rfl, rfl⟩; refine AL.noR ?_; refine AL.ra ?_; refine AL.nil (AW.seq (AW.g (AL.rm ?_))); refine AL.r qb ?_; refine AL.rm ?_; refine AL.fk (d := 8) rfl (fun h8 => ?_) (fun h8 => ?_)
  ·refine AL.n ?_; (iterate 2 refine AL.rf ?_); refine AL.r qt ?_; refine AL.nil (AW.cond_t rfl (AW.g (AL.ra ?_))); refine AL.nil (AW.ret ?_)
   repeat with_reducible first | refine jAp ?_ | refine jAe ?_
   with_reducible first | refine jAw ?_ | refine jAf ?_
   refine jAY rfl (ResV.tmp rfl) rfl ?_; rw [smP, if_pos (by omega)]; exact ⟨rfl, rfl⟩
  refine AL.n ?_; refine AL.ro (jAa rfl rfl) ?_; refine AL.ro qb ?_; refine AL.r qf ?_; refine AL.nil (AW.cd rfl (fun h11 => ?_) (fun h11 => ?_))
  ·refine AW.g (AL.ra ?_); refine AL.nil (AW.ret ?_)
   repeat with_reducible first | refine jAp ?_ | refine jAe ?_
   with_reducible first | refine jAw ?_ | refine jAf ?_
   refine jAY rfl (ResV.tmp rfl) rfl ?_; rw [smP, if_pos (by omega)]; exact ⟨rfl, rfl⟩
  refine AW.skip (AW.g (AL.rm ?_)); refine AL.ra ?_; refine AL.nil (AW.ret ?_)
  repeat with_reducible first | refine jAp ?_ | refine jAe ?_
  with_reducible first | refine jAw ?_ | refine jAf ?_
  refine jAY rfl (ResV.tmp rfl) rfl ?_; rw [smP, if_neg (by omega)]; exact ⟨rfl, rfl⟩
end
end Go.Proofs.YtlapcfnmmpbeeaaGreat
