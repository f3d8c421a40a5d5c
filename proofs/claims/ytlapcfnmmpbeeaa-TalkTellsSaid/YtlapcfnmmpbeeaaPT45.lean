/- A part of a proof. -/
import Derived.Test.YtlapcfnmmpbeeaaPT44
set_option linter.unusedSimpArgs false
set_option linter.unusedVariables false
namespace Go.Proofs.Ytlapcfnmmpbeeaa
set_option maxRecDepth 100000
set_option maxRecDepth 100000
open Go.RowKit
theorem pairs_row {g : Nat} {ps : List PairD} {s t : Bytes} : TK.mk g (owM true 127 2 (ps.map PairD.cs ++ [[AS s, AS t]])) = TK.mk g (owM true 127 2 ((ps ++ [PairD.mk s t]).map PairD.cs)) := by
  rw [List.map_append]; rfl
section
variable (g : Nat) (r : RdrD)
set_option maxHeartbeats 1000000 in
theorem gpr_c (h : r.Ok) : ACo Try.prog 80 [.bx 0 g 0] (RdrT g r) (fun y os' => y = .sl ((gprP r).1.map PairD.cs) ∧ os' = RdrT g (gprP r).2) := by
  obtain ⟨hc1, hc2⟩ := count_bd r (most := 6) (by omega)
  have hqn : ((prn r : Nat) : Int) = (countP r 6).1 := Int.toNat_of_nonneg hc1
  refine ACo.of' (st0 := [⟨g, .box 101 [.sl (byA r.b), .sc (.int .i64 r.f), .sc (.int .i64 r.at_), .sc (.bool r.bad)]⟩, TK.mk 0 .off, TK.mk 0 .off, TK.mk 0 .off]) 23 3 Try.func80 rfl 1 ?_; refine AW.g (AL.ra ?_); refine AL.nil (AW.g (AL.rm ?_)); refine AL.oq (calloR (rcount_c g r h 6) [0] ?_); rintro y os' ⟨rfl, rfl⟩; refine AL.noR ?_; refine AL.ra ?_; refine AL.nil (AW.g (AL.ra ?_)); refine AL.nil (AW.seq (AW.g (AL.nil_own 4 3 127 2 rfl rfl ?_))); refine AL.n ?_; (iterate 2 refine AL.rm ?_); refine AL.nil (AW.block (AW.loopM (ι := Nat × Nat) [5, 6, 11, 12, 13, 14, 15, 16, 17, 18, 19, 20, 21, 22] (fun ⟨j, gL⟩ => [(10, AI (j : Int)), (4, .ow 3 gL)]) [1, 2] (fun ⟨j, gL⟩ => [(3, ⟨gL, owM true 127 2 ((pairsP j (countP r 6).2).1.map PairD.cs)⟩), (0, ⟨g, .box 101 [.sl (byA (pairsP j (countP r 6).2).2.b), .sc (.int .i64 (pairsP j (countP r 6).2).2.f), .sc (.int .i64 (pairsP j (countP r 6).2).2.at_), .sc (.bool (pairsP j (countP r 6).2).2.bad)]⟩)]) (fun ⟨j, gL⟩ => j ≤ prn r) (fun ⟨j, gL⟩ => prn r - j) ⟨0, 1⟩ (Nat.zero_le _) wk (by simp only [anys, upds, offs, List.set_cons_zero, List.set_cons_succ]; repeat (first | exact Sk.nil _ | refine Sk.same _ ?_ | refine Sk.scr _ (by decide) ?_ | refine Sk.eq _ (by rfl) ?_)) ?_))
  rintro ⟨j, gL⟩ gs hJ; refine AW.nm ?_
  have hto := pairsP_ok (h.count 6).ok j
  refine AW.g (AL.r qb ?_); refine AL.nil (AW.seq (AW.cd rfl (fun h11 => ?_) (fun h11 => ?_)))
  ·refine AW.skip (AW.seq (AW.block (AW.g (AL.rm ?_)))); refine AL.oq (calloR (rtext_c g (pairsP j (countP r 6).2).2 hto.1.ok 12) [0] ?_); rintro y os' ⟨rfl, rfl⟩; refine AL.noR ?_; refine AL.ra ?_; refine AL.nil (AW.g (AL.rm ?_)); refine AL.oq (calloR (rtext_c g (rtextP (pairsP j (countP r 6).2).2 12).2 (hto.1.ok.text 12).ok 12) [0] ?_); rintro y os' ⟨rfl, rfl⟩; refine AL.noR ?_; refine AL.ra ?_; refine AL.nil (AW.region ?_); (iterate 3 refine AL.rm ?_); refine AL.r (qB pl_127 ze_127) ?_; refine AL.oq (AOpB.op (bs_set rfl ap_59 ze_127 rfl rfl ?_)); refine AL.no ?_; refine AL.oq (op_appendM rfl ap_59 rfl rfl (src_s rfl) (by have := hto.2; simp only [List.length_map, List.length_cons, List.length_nil]; omega) (by have := hto.2; simp only [List.length_map, List.length_cons, List.length_nil]; omega) ?_)
   refine AL.no ?_; refine AL.ra ?_; refine AL.nil ?_; change AW _ _ _ _ _; refine AW.region ?_; refine AL.r qA ?_; refine AL.rm ?_; refine AL.nil ?_; refine ⟨⟨j + 1, gL + 1⟩, ?_, by first | omega | (simp only []; omega), ?_, ?_⟩
   ·show j + 1 ≤ prn r; omega
   ·exact wk
   simp only [anys, upds, offs, List.set_cons_zero, List.set_cons_succ]; repeat (first | exact Sk.nil _ | refine Sk.same _ ?_ | refine Sk.scr _ (by decide) ?_ | refine Sk.eq _ (by first | rfl | exact pairs_row) ?_)
  refine AW.exit ?_; change AW _ _ _ _ _; refine AW.g (AL.rm ?_); refine AL.ra ?_; refine AL.nil (AW.ret ?_)
  repeat with_reducible first | refine thenA_ret ?_ | refine inBlockA_ret ?_
  with_reducible first | refine retO_ret ?_ | refine retO_normal ?_
  refine reso1R rfl (ResV.tmp rfl) (by first | exact resO_owM (by decide) rfl | exact resO_own (by decide) rfl | exact resO_set (by decide) rfl | exact resO_setM (by decide) rfl | exact resO_setN (by decide) rfl) ?_; obtain rfl : j = prn r := (by omega); exact ⟨rfl, rfl⟩
theorem fget_x (h : r.Ok) : ACo Try.prog 81 [.bx 0 g 0] (RdrT g r) (fun y os' => y = .ag [AI ((getF r).1).at_.scope, AS ((getF r).1).at_.group, AS ((getF r).1).at_.name, AI ((getF r).1).kind, AS ((getF r).1).dflt, .sl (csS ((getF r).1).cases), AI ((getF r).1).worth] ∧ os' = RdrT g (getF r).2) := fget_c g r h
theorem rdref_x (h : r.Ok) : ACo Try.prog 58 [.bx 0 g 0] (RdrT g r) (fun y os' => y = .ag [AI (rrefP r).1.scope, AS (rrefP r).1.group, AS (rrefP r).1.name] ∧ os' = RdrT g (rrefP r).2) := rdref_c g r h
theorem rdtag_x (h : r.Ok) : ACo Try.prog 28 [.bx 0 g 0] (RdrT g r) (fun y os' => y = .ag [AI (rtagP r).1.rep, AI (rtagP r).1.n] ∧ os' = RdrT g (rtagP r).2) := rdtag_c g r h
theorem lxF_t {r : RdrD} (h : (numP r).1 = 2 ∨ (numP r).1 = 3) : lxF r = (getF (lx7 r)).1 ∧ lx8 r = (getF (lx7 r)).2 := by
  have e : addsB (numP r).1 = true := by unfold addsB; simpa using h
  unfold lxF lx8
  rw [if_pos e, if_pos e]; exact ⟨rfl, rfl⟩
theorem lxF_f {r : RdrD} (h : ¬ (numP r).1 = 2) (h' : ¬ (numP r).1 = 3) : lxF r = zeroF ∧ lx8 r = lx7 r := by
  have e : ¬ addsB (numP r).1 = true := by unfold addsB; simp [h, h']
  unfold lxF lx8
  rw [if_neg e, if_neg e]; exact ⟨rfl, rfl⟩
set_option maxHeartbeats 4000000 in
theorem xget_t (h : r.Ok) (hk : (numP r).1 = 2 ∨ (numP r).1 = 3) : ACo Try.prog 55 [.bx 0 g 0] (RdrT g r) (fun y os' => y = .ag [AI ((getX r).1).kind, AI ((getX r).1).at_.scope, AS ((getX r).1).at_.group, AS ((getX r).1).at_.name, AS ((getX r).1).name, AS ((getX r).1).other, AI ((getX r).1).factor, AI ((getX r).1).field.at_.scope, AS ((getX r).1).field.at_.group, AS ((getX r).1).field.at_.name, AI ((getX r).1).field.kind, AS ((getX r).1).field.dflt, .sl (csS ((getX r).1).field.cases), AI ((getX r).1).field.worth, .sl (((getX r).1).forth.map PairD.cs), .sl (((getX r).1).back.map PairD.cs)] ∧ os' = RdrT g (getX r).2) := by
  have e := lxF_t hk
  have hx : rawX r = ⟨(numP r).1, (rrefP (lx1 r)).1, (rtextP (lx2 r) 12).1, (rtextP (lx3 r) 40).1, (numP (lx4 r)).1, (getF (lx7 r)).1, (gprP (lx5 r)).1, (gprP (lx6 r)).1⟩ := by unfold rawX; rw [e.1]
  have h7 := (lx7_ok h).ok
  refine ACo.of' (st0 := [⟨g, .box 101 [.sl (byA r.b), .sc (.int .i64 r.f), .sc (.int .i64 r.at_), .sc (.bool r.bad)]⟩, TK.mk 0 .off, TK.mk 0 .off]) 45 2 Try.func55 rfl 1 ?_; refine AW.g (AL.oq (AOpB.op (oA 1 ze_61 ?_))); refine AL.no ?_; refine AL.nil (AW.g (AL.oq (AOpB.op (oA 2 ze_61 ?_)))); refine AL.no ?_; refine AL.nil (AW.g (AL.rm ?_)); refine AL.oq (calloR (rnum_c g r h) [0] ?_); rintro y os' ⟨rfl, rfl⟩; refine AL.noR ?_; refine AL.r (qa fo_61_0) ?_; refine AL.oq (oS sz_3 ?_); refine AL.no ?_; refine AL.nil (AW.g (AL.rm ?_)); refine AL.oq (calloR (rdref_x g (lx1 r) (lx1_ok h).ok) [0] ?_); rintro y os' ⟨rfl, rfl⟩; refine AL.noR ?_; refine AL.r (qa fo_61_1) ?_; refine AL.oq (oS sz_55 ?_); refine AL.no ?_; refine AL.nil (AW.g (AL.rm ?_)); refine AL.oq (calloR (rtext_c g (lx2 r) (lx2_ok h).ok 12) [0] ?_); rintro y os' ⟨rfl, rfl⟩; refine AL.noR ?_; refine AL.r (qa fo_61_2) ?_; refine AL.oq (oS sz_9 ?_); refine AL.no ?_; refine AL.nil (AW.g (AL.rm ?_)); refine AL.oq (calloR (rtext_c g (lx3 r) (lx3_ok h).ok 40) [0] ?_); rintro y os' ⟨rfl, rfl⟩; refine AL.noR ?_; refine AL.r (qa fo_61_3) ?_; refine AL.oq (oS sz_9 ?_); refine AL.no ?_; refine AL.nil ?_
  refine AW.g (AL.rm ?_); refine AL.oq (calloR (rnum_c g (lx4 r) (lx4_ok h).ok) [0] ?_); rintro y os' ⟨rfl, rfl⟩; refine AL.noR ?_; refine AL.r (qa fo_61_4) ?_; refine AL.oq (oS sz_2 ?_); refine AL.no ?_; refine AL.nil (AW.g (AL.rm ?_)); refine AL.oq (calloR (gpr_c g (lx5 r) (lx5_ok h).ok) [0] ?_); rintro y os' ⟨rfl, rfl⟩; refine AL.noR ?_; refine AL.r (qa fo_61_6) ?_; refine AL.oq (oS sz_59 ?_); refine AL.no ?_; refine AL.nil (AW.g (AL.rm ?_)); refine AL.oq (calloR (gpr_c g (lx6 r) (lx6_ok h).ok) [0] ?_); rintro y os' ⟨rfl, rfl⟩; refine AL.noR ?_; refine AL.r (qa fo_61_7) ?_; refine AL.oq (oS sz_59 ?_); refine AL.no ?_; refine AL.nil (AW.seq (AW.g (AL.r (qa fo_61_0) ?_))); refine AL.r (ql ag_3) ?_; refine AL.r qb ?_; refine AL.rm ?_; refine AL.fk (d := 28) rfl (fun h28 => ?_) (fun h28 => ?_)
  ·refine AL.n ?_; (iterate 3 refine AL.rf ?_); refine AL.r qt ?_; refine AL.nil (AW.cond_t rfl (AW.region (AL.rm ?_))); refine AL.oq (calloR (fget_x g (lx7 r) h7) [0] ?_); rintro y os' ⟨rfl, rfl⟩; refine AL.noR ?_; refine AL.r (qa fo_61_5) ?_; refine AL.oq (oS sz_58 ?_); refine AL.no ?_; refine AL.nil (AW.seq (AW.g (AL.rm ?_))); refine AL.oq (calloR (rbad_c g (getF (lx7 r)).2) [0] ?_); rintro y os' ⟨rfl, rfl⟩; refine AL.noR ?_; refine AL.nil (AW.cd rfl (fun h37 => ?_) (fun h37 => ?_))
   ·refine AW.g (AL.r (qB pl_61 ze_61) ?_); refine AL.oq (oS sz_61 ?_); refine AL.no ?_; refine AL.nil (AW.ret ?_)
    repeat with_reducible first | refine thenA_ret ?_ | refine inBlockA_ret ?_
    with_reducible first | refine retO_ret ?_ | refine retO_normal ?_
    refine reso1R rfl (ResV.cells rfl rfl ag_61 (Nat.le_of_ble_eq_true rfl) rfl) rfl ?_; rw [getX, e.2, if_pos (by simp_all)]; exact ⟨rfl, rfl⟩
   refine AW.skip (AW.seq (AW.g (AL.r (qN ag_61) ?_))); refine AL.cl (lright_c ⟨(numP r).1, (rrefP (lx1 r)).1, (rtextP (lx2 r) 12).1, (rtextP (lx3 r) 40).1, (numP (lx4 r)).1, (getF (lx7 r)).1, (gprP (lx5 r)).1, (gprP (lx6 r)).1⟩) ?_; refine AL.no ?_; refine AL.r qu ?_; refine AL.nil (AW.cd rfl (fun h41 => ?_) (fun h41 => ?_))
   ·refine AW.g (AL.rm ?_); refine AL.oq (calloR (rspoil_c g (getF (lx7 r)).2) [0] ?_); rintro y os' ⟨rfl, rfl⟩; refine AL.noR ?_; refine AL.nil (AW.g (AL.r (qB pl_61 ze_61) ?_)); refine AL.oq (oS sz_61 ?_); refine AL.no ?_; refine AL.nil (AW.ret ?_)
    repeat with_reducible first | refine thenA_ret ?_ | refine inBlockA_ret ?_
    with_reducible first | refine retO_ret ?_ | refine retO_normal ?_
    refine reso1R rfl (ResV.cells rfl rfl ag_61 (Nat.le_of_ble_eq_true rfl) rfl) rfl ?_; rw [getX, e.2, hx, if_neg (by simp_all), if_neg (by simp_all)]; exact ⟨rfl, rfl⟩
   refine AW.skip (AW.g (AL.r (qN ag_61) ?_)); refine AL.oq (oS sz_61 ?_); refine AL.no ?_; refine AL.nil (AW.ret ?_)
   repeat with_reducible first | refine thenA_ret ?_ | refine inBlockA_ret ?_
   with_reducible first | refine retO_ret ?_ | refine retO_normal ?_
   refine reso1R rfl (ResV.cells rfl rfl ag_61 (Nat.le_of_ble_eq_true rfl) rfl) rfl ?_; rw [getX, e.2, hx, if_neg (by simp_all), if_pos (by simp_all)]; exact ⟨rfl, rfl⟩
  refine AL.n ?_; refine AL.ro (qa fo_61_0) ?_; refine AL.ro (ql ag_3) ?_; refine AL.ro qb ?_; refine AL.r qf ?_; refine AL.nil (AW.cd rfl (fun h32 => ?_) (fun h32 => ?_))
  ·refine AW.region (AL.rm ?_); refine AL.oq (calloR (fget_x g (lx7 r) h7) [0] ?_); rintro y os' ⟨rfl, rfl⟩; refine AL.noR ?_; refine AL.r (qa fo_61_5) ?_; refine AL.oq (oS sz_58 ?_); refine AL.no ?_; refine AL.nil (AW.seq (AW.g (AL.rm ?_))); refine AL.oq (calloR (rbad_c g (getF (lx7 r)).2) [0] ?_); rintro y os' ⟨rfl, rfl⟩; refine AL.noR ?_; refine AL.nil (AW.cd rfl (fun h37 => ?_) (fun h37 => ?_))
   ·refine AW.g (AL.r (qB pl_61 ze_61) ?_); refine AL.oq (oS sz_61 ?_); refine AL.no ?_; refine AL.nil (AW.ret ?_)
    repeat with_reducible first | refine thenA_ret ?_ | refine inBlockA_ret ?_
    with_reducible first | refine retO_ret ?_ | refine retO_normal ?_
    refine reso1R rfl (ResV.cells rfl rfl ag_61 (Nat.le_of_ble_eq_true rfl) rfl) rfl ?_; rw [getX, e.2, if_pos (by simp_all)]; exact ⟨rfl, rfl⟩
   refine AW.skip (AW.seq (AW.g (AL.r (qN ag_61) ?_))); refine AL.cl (lright_c ⟨(numP r).1, (rrefP (lx1 r)).1, (rtextP (lx2 r) 12).1, (rtextP (lx3 r) 40).1, (numP (lx4 r)).1, (getF (lx7 r)).1, (gprP (lx5 r)).1, (gprP (lx6 r)).1⟩) ?_; refine AL.no ?_; refine AL.r qu ?_; refine AL.nil (AW.cd rfl (fun h41 => ?_) (fun h41 => ?_))
   ·refine AW.g (AL.rm ?_); refine AL.oq (calloR (rspoil_c g (getF (lx7 r)).2) [0] ?_); rintro y os' ⟨rfl, rfl⟩; refine AL.noR ?_; refine AL.nil (AW.g (AL.r (qB pl_61 ze_61) ?_)); refine AL.oq (oS sz_61 ?_); refine AL.no ?_; refine AL.nil (AW.ret ?_)
    repeat with_reducible first | refine thenA_ret ?_ | refine inBlockA_ret ?_
    with_reducible first | refine retO_ret ?_ | refine retO_normal ?_
    refine reso1R rfl (ResV.cells rfl rfl ag_61 (Nat.le_of_ble_eq_true rfl) rfl) rfl ?_; rw [getX, e.2, hx, if_neg (by simp_all), if_neg (by simp_all)]; exact ⟨rfl, rfl⟩
   refine AW.skip (AW.g (AL.r (qN ag_61) ?_)); refine AL.oq (oS sz_61 ?_); refine AL.no ?_; refine AL.nil (AW.ret ?_)
   repeat with_reducible first | refine thenA_ret ?_ | refine inBlockA_ret ?_
   with_reducible first | refine retO_ret ?_ | refine retO_normal ?_
   refine reso1R rfl (ResV.cells rfl rfl ag_61 (Nat.le_of_ble_eq_true rfl) rfl) rfl ?_; rw [getX, e.2, hx, if_neg (by simp_all), if_pos (by simp_all)]; exact ⟨rfl, rfl⟩
  (exfalso; omega)
set_option maxHeartbeats 4000000 in
theorem xget_f (h : r.Ok) (hk : ¬ (numP r).1 = 2) (hk3 : ¬ (numP r).1 = 3) : ACo Try.prog 55 [.bx 0 g 0] (RdrT g r) (fun y os' => y = .ag [AI ((getX r).1).kind, AI ((getX r).1).at_.scope, AS ((getX r).1).at_.group, AS ((getX r).1).at_.name, AS ((getX r).1).name, AS ((getX r).1).other, AI ((getX r).1).factor, AI ((getX r).1).field.at_.scope, AS ((getX r).1).field.at_.group, AS ((getX r).1).field.at_.name, AI ((getX r).1).field.kind, AS ((getX r).1).field.dflt, .sl (csS ((getX r).1).field.cases), AI ((getX r).1).field.worth, .sl (((getX r).1).forth.map PairD.cs), .sl (((getX r).1).back.map PairD.cs)] ∧ os' = RdrT g (getX r).2) := by
  have e := lxF_f hk hk3
  have hx : rawX r = ⟨(numP r).1, (rrefP (lx1 r)).1, (rtextP (lx2 r) 12).1, (rtextP (lx3 r) 40).1, (numP (lx4 r)).1, zeroF, (gprP (lx5 r)).1, (gprP (lx6 r)).1⟩ := by unfold rawX; rw [e.1]
  have h7 := (lx7_ok h).ok
  refine ACo.of' (st0 := [⟨g, .box 101 [.sl (byA r.b), .sc (.int .i64 r.f), .sc (.int .i64 r.at_), .sc (.bool r.bad)]⟩, TK.mk 0 .off, TK.mk 0 .off]) 45 2 Try.func55 rfl 1 ?_; refine AW.g (AL.oq (AOpB.op (oA 1 ze_61 ?_))); refine AL.no ?_; refine AL.nil (AW.g (AL.oq (AOpB.op (oA 2 ze_61 ?_)))); refine AL.no ?_; refine AL.nil (AW.g (AL.rm ?_)); refine AL.oq (calloR (rnum_c g r h) [0] ?_); rintro y os' ⟨rfl, rfl⟩; refine AL.noR ?_; refine AL.r (qa fo_61_0) ?_; refine AL.oq (oS sz_3 ?_); refine AL.no ?_; refine AL.nil (AW.g (AL.rm ?_)); refine AL.oq (calloR (rdref_x g (lx1 r) (lx1_ok h).ok) [0] ?_); rintro y os' ⟨rfl, rfl⟩; refine AL.noR ?_; refine AL.r (qa fo_61_1) ?_; refine AL.oq (oS sz_55 ?_); refine AL.no ?_; refine AL.nil (AW.g (AL.rm ?_)); refine AL.oq (calloR (rtext_c g (lx2 r) (lx2_ok h).ok 12) [0] ?_); rintro y os' ⟨rfl, rfl⟩; refine AL.noR ?_; refine AL.r (qa fo_61_2) ?_; refine AL.oq (oS sz_9 ?_); refine AL.no ?_; refine AL.nil (AW.g (AL.rm ?_)); refine AL.oq (calloR (rtext_c g (lx3 r) (lx3_ok h).ok 40) [0] ?_); rintro y os' ⟨rfl, rfl⟩; refine AL.noR ?_; refine AL.r (qa fo_61_3) ?_; refine AL.oq (oS sz_9 ?_); refine AL.no ?_; refine AL.nil ?_
  refine AW.g (AL.rm ?_); refine AL.oq (calloR (rnum_c g (lx4 r) (lx4_ok h).ok) [0] ?_); rintro y os' ⟨rfl, rfl⟩; refine AL.noR ?_; refine AL.r (qa fo_61_4) ?_; refine AL.oq (oS sz_2 ?_); refine AL.no ?_; refine AL.nil (AW.g (AL.rm ?_)); refine AL.oq (calloR (gpr_c g (lx5 r) (lx5_ok h).ok) [0] ?_); rintro y os' ⟨rfl, rfl⟩; refine AL.noR ?_; refine AL.r (qa fo_61_6) ?_; refine AL.oq (oS sz_59 ?_); refine AL.no ?_; refine AL.nil (AW.g (AL.rm ?_)); refine AL.oq (calloR (gpr_c g (lx6 r) (lx6_ok h).ok) [0] ?_); rintro y os' ⟨rfl, rfl⟩; refine AL.noR ?_; refine AL.r (qa fo_61_7) ?_; refine AL.oq (oS sz_59 ?_); refine AL.no ?_; refine AL.nil (AW.seq (AW.g (AL.r (qa fo_61_0) ?_))); refine AL.r (ql ag_3) ?_; refine AL.r qb ?_; refine AL.rm ?_; refine AL.fk (d := 28) rfl (fun h28 => ?_) (fun h28 => ?_)
  ·(exfalso; omega)
  refine AL.n ?_; refine AL.ro (qa fo_61_0) ?_; refine AL.ro (ql ag_3) ?_; refine AL.ro qb ?_; refine AL.r qf ?_; refine AL.nil (AW.cd rfl (fun h32 => ?_) (fun h32 => ?_))
  ·(exfalso; omega)
  refine AW.skip (AW.seq (AW.g (AL.rm ?_))); refine AL.oq (calloR (rbad_c g (lx7 r)) [0] ?_); rintro y os' ⟨rfl, rfl⟩; refine AL.noR ?_; refine AL.nil (AW.cd rfl (fun h37 => ?_) (fun h37 => ?_))
  ·refine AW.g (AL.r (qB pl_61 ze_61) ?_); refine AL.oq (oS sz_61 ?_); refine AL.no ?_; refine AL.nil (AW.ret ?_)
   repeat with_reducible first | refine thenA_ret ?_ | refine inBlockA_ret ?_
   with_reducible first | refine retO_ret ?_ | refine retO_normal ?_
   refine reso1R rfl (ResV.cells rfl rfl ag_61 (Nat.le_of_ble_eq_true rfl) rfl) rfl ?_; rw [getX, e.2, if_pos (by simp_all)]; exact ⟨rfl, rfl⟩
  refine AW.skip (AW.seq (AW.g (AL.r (qN ag_61) ?_))); refine AL.cl (lright_c ⟨(numP r).1, (rrefP (lx1 r)).1, (rtextP (lx2 r) 12).1, (rtextP (lx3 r) 40).1, (numP (lx4 r)).1, zeroF, (gprP (lx5 r)).1, (gprP (lx6 r)).1⟩) ?_; refine AL.no ?_; refine AL.r qu ?_; refine AL.nil (AW.cd rfl (fun h41 => ?_) (fun h41 => ?_))
  ·refine AW.g (AL.rm ?_); refine AL.oq (calloR (rspoil_c g (lx7 r)) [0] ?_); rintro y os' ⟨rfl, rfl⟩; refine AL.noR ?_; refine AL.nil (AW.g (AL.r (qB pl_61 ze_61) ?_)); refine AL.oq (oS sz_61 ?_); refine AL.no ?_; refine AL.nil (AW.ret ?_)
   repeat with_reducible first | refine thenA_ret ?_ | refine inBlockA_ret ?_
   with_reducible first | refine retO_ret ?_ | refine retO_normal ?_
   refine reso1R rfl (ResV.cells rfl rfl ag_61 (Nat.le_of_ble_eq_true rfl) rfl) rfl ?_; rw [getX, e.2, hx, if_neg (by simp_all), if_neg (by simp_all)]; exact ⟨rfl, rfl⟩
  refine AW.skip (AW.g (AL.r (qN ag_61) ?_)); refine AL.oq (oS sz_61 ?_); refine AL.no ?_; refine AL.nil (AW.ret ?_)
  repeat with_reducible first | refine thenA_ret ?_ | refine inBlockA_ret ?_
  with_reducible first | refine retO_ret ?_ | refine retO_normal ?_
  refine reso1R rfl (ResV.cells rfl rfl ag_61 (Nat.le_of_ble_eq_true rfl) rfl) rfl ?_; rw [getX, e.2, hx, if_neg (by simp_all), if_pos (by simp_all)]; exact ⟨rfl, rfl⟩
theorem xget_c (h : r.Ok) : ACo Try.prog 55 [.bx 0 g 0] (RdrT g r) (fun y os' => y = .ag [AI ((getX r).1).kind, AI ((getX r).1).at_.scope, AS ((getX r).1).at_.group, AS ((getX r).1).at_.name, AS ((getX r).1).name, AS ((getX r).1).other, AI ((getX r).1).factor, AI ((getX r).1).field.at_.scope, AS ((getX r).1).field.at_.group, AS ((getX r).1).field.at_.name, AI ((getX r).1).field.kind, AS ((getX r).1).field.dflt, .sl (csS ((getX r).1).field.cases), AI ((getX r).1).field.worth, .sl (((getX r).1).forth.map PairD.cs), .sl (((getX r).1).back.map PairD.cs)] ∧ os' = RdrT g (getX r).2) := by
  by_cases h2 : (numP r).1 = 2
  · exact xget_t g r h (.inl h2)
  by_cases h3 : (numP r).1 = 3
  · exact xget_t g r h (.inr h3)
  exact xget_f g r h h2 h3
set_option maxHeartbeats 4000000 in
theorem eget_c (h : r.Ok) : ACo Try.prog 30 [.bx 0 g 0] (RdrT g r) (fun y os' => y = .ag [AI ((getE r).1).id.rep, AI ((getE r).1).id.n, AI ((getE r).1).par.rep, AI ((getE r).1).par.n, AI (((getE r).1).lens).kind, AI (((getE r).1).lens).at_.scope, AS (((getE r).1).lens).at_.group, AS (((getE r).1).lens).at_.name, AS (((getE r).1).lens).name, AS (((getE r).1).lens).other, AI (((getE r).1).lens).factor, AI (((getE r).1).lens).field.at_.scope, AS (((getE r).1).lens).field.at_.group, AS (((getE r).1).lens).field.at_.name, AI (((getE r).1).lens).field.kind, AS (((getE r).1).lens).field.dflt, .sl (csS (((getE r).1).lens).field.cases), AI (((getE r).1).lens).field.worth, .sl ((((getE r).1).lens).forth.map PairD.cs), .sl ((((getE r).1).lens).back.map PairD.cs)] ∧ os' = RdrT g (getE r).2) := by
  refine ACo.of' (st0 := [⟨g, .box 101 [.sl (byA r.b), .sc (.int .i64 r.f), .sc (.int .i64 r.at_), .sc (.bool r.bad)]⟩, TK.mk 0 .off, TK.mk 0 .off, TK.mk 0 .off, TK.mk 0 .off]) 24 4 Try.func30 rfl 1 ?_; refine AW.g (AL.oq (AOpB.op (oA 1 ze_63 ?_))); refine AL.no ?_; refine AL.nil (AW.g (AL.rm ?_)); refine AL.oq (calloR (rdtag_x g r h) [0] ?_); rintro y os' ⟨rfl, rfl⟩; refine AL.noR ?_; refine AL.oq (AOpB.op (oA 2 ze_51 ?_)); refine AL.no ?_; refine AL.oq (oS sz_51 ?_); refine AL.no ?_; refine AL.nil (AW.g (AL.rm ?_)); refine AL.oq (calloR (rdtag_x g (ex1 r) (ex1_ok h).ok) [0] ?_); rintro y os' ⟨rfl, rfl⟩; refine AL.noR ?_; refine AL.oq (AOpB.op (oA 3 ze_51 ?_)); refine AL.no ?_; refine AL.oq (oS sz_51 ?_); refine AL.no ?_; refine AL.nil (AW.seq (AW.drawA (by kernel_rfl) ?_)); refine ADA.r 2 rfl (ARdP.a (rdP_move rfl rfl)) rfl ?_; refine ADA.b ?_; apply ADB.cut
  ·intro key3_1; refine ADB.all (is := [0, 1, 3, 5]) (by kernel_rfl) (by simp) ?_; intro i hi; simp only [List.mem_cons, List.not_mem_nil, or_false] at hi
   rcases hi with rfl | rfl | rfl | rfl
   ·refine ⟨_, rfl, rfl, AOpB.op (ARd.opB (qN ag_51) ?_)⟩; refine ADB.n ?_; refine ADB.all (is := [1, 3, 5]) (by kernel_rfl) (by simp) ?_; intro i hi; simp only [List.mem_cons, List.not_mem_nil, or_false] at hi
    rcases hi with rfl | rfl | rfl
    ·refine ⟨_, rfl, rfl, AOpB.op (ARd.opB (qN ag_51) ?_)⟩; refine ADB.n ?_; refine ADB.all (is := [3, 5]) (by kernel_rfl) (by simp) ?_; intro i hi; simp only [List.mem_cons, List.not_mem_nil, or_false] at hi
     rcases hi with rfl | rfl
     ·refine ⟨_, rfl, rfl, calloR (xget_c g (ex2 r) (ex2_ok h).ok) [0] ?_⟩; rintro y os' ⟨rfl, rfl⟩; refine ADB.noR ?_; refine ADB.r 4 rfl (rdP_build rfl pl_63 ze_63 rfl rfl) rfl ?_; refine ADB.mv 5 rfl (AOpB.op (oA 4 ze_63 ?_)); refine ADB.n ?_; exact key3_1
     refine ⟨_, rfl, rfl, AOpB.op (oA 4 ze_63 ?_)⟩; refine ADB.n ?_; refine ADB.mv 3 rfl (calloR (xget_c g (ex2 r) (ex2_ok h).ok) [0] ?_); rintro y os' ⟨rfl, rfl⟩; refine ADB.noR ?_; refine ADB.r 4 rfl (rdP_build rfl pl_63 ze_63 rfl rfl) rfl ?_; exact ADB.use key3_1
    ·refine ⟨_, rfl, rfl, calloR (xget_c g (ex2 r) (ex2_ok h).ok) [0] ?_⟩; rintro y os' ⟨rfl, rfl⟩; refine ADB.noR ?_; refine ADB.all (is := [1, 5]) (by kernel_rfl) (by simp) ?_; intro i hi; simp only [List.mem_cons, List.not_mem_nil, or_false] at hi
     rcases hi with rfl | rfl
     ·refine ⟨_, rfl, rfl, AOpB.op (ARd.opB (qN ag_51) ?_)⟩; refine ADB.n ?_; refine ADB.r 4 rfl (rdP_build rfl pl_63 ze_63 rfl rfl) rfl ?_; refine ADB.mv 5 rfl (AOpB.op (oA 4 ze_63 ?_)); refine ADB.n ?_; exact ADB.use key3_1
     refine ⟨_, rfl, rfl, AOpB.op (oA 4 ze_63 ?_)⟩; refine ADB.n ?_; refine ADB.mv 1 rfl (AOpB.op (ARd.opB (qN ag_51) ?_)); refine ADB.n ?_; refine ADB.r 4 rfl (rdP_build rfl pl_63 ze_63 rfl rfl) rfl ?_; exact ADB.use key3_1
    refine ⟨_, rfl, rfl, AOpB.op (oA 4 ze_63 ?_)⟩; refine ADB.n ?_; refine ADB.all (is := [1, 3]) (by kernel_rfl) (by simp) ?_; intro i hi; simp only [List.mem_cons, List.not_mem_nil, or_false] at hi
    rcases hi with rfl | rfl
    ·refine ⟨_, rfl, rfl, AOpB.op (ARd.opB (qN ag_51) ?_)⟩; refine ADB.n ?_; refine ADB.mv 3 rfl (calloR (xget_c g (ex2 r) (ex2_ok h).ok) [0] ?_); rintro y os' ⟨rfl, rfl⟩; refine ADB.noR ?_; refine ADB.r 4 rfl (rdP_build rfl pl_63 ze_63 rfl rfl) rfl ?_; exact ADB.use key3_1
    refine ⟨_, rfl, rfl, calloR (xget_c g (ex2 r) (ex2_ok h).ok) [0] ?_⟩; rintro y os' ⟨rfl, rfl⟩; refine ADB.noR ?_; refine ADB.mv 1 rfl (AOpB.op (ARd.opB (qN ag_51) ?_)); refine ADB.n ?_; refine ADB.r 4 rfl (rdP_build rfl pl_63 ze_63 rfl rfl) rfl ?_; exact ADB.use key3_1
   ·refine ⟨_, rfl, rfl, AOpB.op (ARd.opB (qN ag_51) ?_)⟩; refine ADB.n ?_; refine ADB.all (is := [0, 3, 5]) (by kernel_rfl) (by simp) ?_; intro i hi; simp only [List.mem_cons, List.not_mem_nil, or_false] at hi
    rcases hi with rfl | rfl | rfl
    ·refine ⟨_, rfl, rfl, AOpB.op (ARd.opB (qN ag_51) ?_)⟩; refine ADB.n ?_; refine ADB.all (is := [3, 5]) (by kernel_rfl) (by simp) ?_; intro i hi; simp only [List.mem_cons, List.not_mem_nil, or_false] at hi
     rcases hi with rfl | rfl
     ·refine ⟨_, rfl, rfl, calloR (xget_c g (ex2 r) (ex2_ok h).ok) [0] ?_⟩; rintro y os' ⟨rfl, rfl⟩; refine ADB.noR ?_; refine ADB.r 4 rfl (rdP_build rfl pl_63 ze_63 rfl rfl) rfl ?_; refine ADB.mv 5 rfl (AOpB.op (oA 4 ze_63 ?_)); refine ADB.n ?_; exact ADB.use key3_1
     refine ⟨_, rfl, rfl, AOpB.op (oA 4 ze_63 ?_)⟩; refine ADB.n ?_; refine ADB.mv 3 rfl (calloR (xget_c g (ex2 r) (ex2_ok h).ok) [0] ?_); rintro y os' ⟨rfl, rfl⟩; refine ADB.noR ?_; refine ADB.r 4 rfl (rdP_build rfl pl_63 ze_63 rfl rfl) rfl ?_; exact ADB.use key3_1
    ·refine ⟨_, rfl, rfl, calloR (xget_c g (ex2 r) (ex2_ok h).ok) [0] ?_⟩; rintro y os' ⟨rfl, rfl⟩; refine ADB.noR ?_; refine ADB.all (is := [0, 5]) (by kernel_rfl) (by simp) ?_; intro i hi; simp only [List.mem_cons, List.not_mem_nil, or_false] at hi
     rcases hi with rfl | rfl
     ·refine ⟨_, rfl, rfl, AOpB.op (ARd.opB (qN ag_51) ?_)⟩; refine ADB.n ?_; refine ADB.r 4 rfl (rdP_build rfl pl_63 ze_63 rfl rfl) rfl ?_; refine ADB.mv 5 rfl (AOpB.op (oA 4 ze_63 ?_)); refine ADB.n ?_; exact ADB.use key3_1
     refine ⟨_, rfl, rfl, AOpB.op (oA 4 ze_63 ?_)⟩; refine ADB.n ?_; refine ADB.mv 0 rfl (AOpB.op (ARd.opB (qN ag_51) ?_)); refine ADB.n ?_; refine ADB.r 4 rfl (rdP_build rfl pl_63 ze_63 rfl rfl) rfl ?_; exact ADB.use key3_1
    refine ⟨_, rfl, rfl, AOpB.op (oA 4 ze_63 ?_)⟩; refine ADB.n ?_; refine ADB.all (is := [0, 3]) (by kernel_rfl) (by simp) ?_; intro i hi; simp only [List.mem_cons, List.not_mem_nil, or_false] at hi
    rcases hi with rfl | rfl
    ·refine ⟨_, rfl, rfl, AOpB.op (ARd.opB (qN ag_51) ?_)⟩; refine ADB.n ?_; refine ADB.mv 3 rfl (calloR (xget_c g (ex2 r) (ex2_ok h).ok) [0] ?_); rintro y os' ⟨rfl, rfl⟩; refine ADB.noR ?_; refine ADB.r 4 rfl (rdP_build rfl pl_63 ze_63 rfl rfl) rfl ?_; exact ADB.use key3_1
    refine ⟨_, rfl, rfl, calloR (xget_c g (ex2 r) (ex2_ok h).ok) [0] ?_⟩; rintro y os' ⟨rfl, rfl⟩; refine ADB.noR ?_; refine ADB.mv 0 rfl (AOpB.op (ARd.opB (qN ag_51) ?_)); refine ADB.n ?_; refine ADB.r 4 rfl (rdP_build rfl pl_63 ze_63 rfl rfl) rfl ?_; exact ADB.use key3_1
   ·refine ⟨_, rfl, rfl, calloR (xget_c g (ex2 r) (ex2_ok h).ok) [0] ?_⟩; rintro y os' ⟨rfl, rfl⟩; refine ADB.noR ?_; refine ADB.all (is := [0, 1, 5]) (by kernel_rfl) (by simp) ?_; intro i hi; simp only [List.mem_cons, List.not_mem_nil, or_false] at hi
    rcases hi with rfl | rfl | rfl
    ·refine ⟨_, rfl, rfl, AOpB.op (ARd.opB (qN ag_51) ?_)⟩; refine ADB.n ?_; refine ADB.all (is := [1, 5]) (by kernel_rfl) (by simp) ?_; intro i hi; simp only [List.mem_cons, List.not_mem_nil, or_false] at hi
     rcases hi with rfl | rfl
     ·refine ⟨_, rfl, rfl, AOpB.op (ARd.opB (qN ag_51) ?_)⟩; refine ADB.n ?_; refine ADB.r 4 rfl (rdP_build rfl pl_63 ze_63 rfl rfl) rfl ?_; refine ADB.mv 5 rfl (AOpB.op (oA 4 ze_63 ?_)); refine ADB.n ?_; exact ADB.use key3_1
     refine ⟨_, rfl, rfl, AOpB.op (oA 4 ze_63 ?_)⟩; refine ADB.n ?_; refine ADB.mv 1 rfl (AOpB.op (ARd.opB (qN ag_51) ?_)); refine ADB.n ?_; refine ADB.r 4 rfl (rdP_build rfl pl_63 ze_63 rfl rfl) rfl ?_; exact ADB.use key3_1
    ·refine ⟨_, rfl, rfl, AOpB.op (ARd.opB (qN ag_51) ?_)⟩; refine ADB.n ?_; refine ADB.all (is := [0, 5]) (by kernel_rfl) (by simp) ?_; intro i hi; simp only [List.mem_cons, List.not_mem_nil, or_false] at hi
     rcases hi with rfl | rfl
     ·refine ⟨_, rfl, rfl, AOpB.op (ARd.opB (qN ag_51) ?_)⟩; refine ADB.n ?_; refine ADB.r 4 rfl (rdP_build rfl pl_63 ze_63 rfl rfl) rfl ?_; refine ADB.mv 5 rfl (AOpB.op (oA 4 ze_63 ?_)); refine ADB.n ?_; exact ADB.use key3_1
     refine ⟨_, rfl, rfl, AOpB.op (oA 4 ze_63 ?_)⟩; refine ADB.n ?_; refine ADB.mv 0 rfl (AOpB.op (ARd.opB (qN ag_51) ?_)); refine ADB.n ?_; refine ADB.r 4 rfl (rdP_build rfl pl_63 ze_63 rfl rfl) rfl ?_; exact ADB.use key3_1
    refine ⟨_, rfl, rfl, AOpB.op (oA 4 ze_63 ?_)⟩; refine ADB.n ?_; refine ADB.all (is := [0, 1]) (by kernel_rfl) (by simp) ?_; intro i hi; simp only [List.mem_cons, List.not_mem_nil, or_false] at hi
    rcases hi with rfl | rfl
    ·refine ⟨_, rfl, rfl, AOpB.op (ARd.opB (qN ag_51) ?_)⟩; refine ADB.n ?_; refine ADB.mv 1 rfl (AOpB.op (ARd.opB (qN ag_51) ?_)); refine ADB.n ?_; refine ADB.r 4 rfl (rdP_build rfl pl_63 ze_63 rfl rfl) rfl ?_; exact ADB.use key3_1
    refine ⟨_, rfl, rfl, AOpB.op (ARd.opB (qN ag_51) ?_)⟩; refine ADB.n ?_; refine ADB.mv 0 rfl (AOpB.op (ARd.opB (qN ag_51) ?_)); refine ADB.n ?_; refine ADB.r 4 rfl (rdP_build rfl pl_63 ze_63 rfl rfl) rfl ?_; exact ADB.use key3_1
   refine ⟨_, rfl, rfl, AOpB.op (oA 4 ze_63 ?_)⟩; refine ADB.n ?_; refine ADB.all (is := [0, 1, 3]) (by kernel_rfl) (by simp) ?_; intro i hi; simp only [List.mem_cons, List.not_mem_nil, or_false] at hi
   rcases hi with rfl | rfl | rfl
   ·refine ⟨_, rfl, rfl, AOpB.op (ARd.opB (qN ag_51) ?_)⟩; refine ADB.n ?_; refine ADB.all (is := [1, 3]) (by kernel_rfl) (by simp) ?_; intro i hi; simp only [List.mem_cons, List.not_mem_nil, or_false] at hi
    rcases hi with rfl | rfl
    ·refine ⟨_, rfl, rfl, AOpB.op (ARd.opB (qN ag_51) ?_)⟩; refine ADB.n ?_; refine ADB.mv 3 rfl (calloR (xget_c g (ex2 r) (ex2_ok h).ok) [0] ?_); rintro y os' ⟨rfl, rfl⟩; refine ADB.noR ?_; refine ADB.r 4 rfl (rdP_build rfl pl_63 ze_63 rfl rfl) rfl ?_; exact ADB.use key3_1
    refine ⟨_, rfl, rfl, calloR (xget_c g (ex2 r) (ex2_ok h).ok) [0] ?_⟩; rintro y os' ⟨rfl, rfl⟩; refine ADB.noR ?_; refine ADB.mv 1 rfl (AOpB.op (ARd.opB (qN ag_51) ?_)); refine ADB.n ?_; refine ADB.r 4 rfl (rdP_build rfl pl_63 ze_63 rfl rfl) rfl ?_; exact ADB.use key3_1
   ·refine ⟨_, rfl, rfl, AOpB.op (ARd.opB (qN ag_51) ?_)⟩; refine ADB.n ?_; refine ADB.all (is := [0, 3]) (by kernel_rfl) (by simp) ?_; intro i hi; simp only [List.mem_cons, List.not_mem_nil, or_false] at hi
    rcases hi with rfl | rfl
    ·refine ⟨_, rfl, rfl, AOpB.op (ARd.opB (qN ag_51) ?_)⟩; refine ADB.n ?_; refine ADB.mv 3 rfl (calloR (xget_c g (ex2 r) (ex2_ok h).ok) [0] ?_); rintro y os' ⟨rfl, rfl⟩; refine ADB.noR ?_; refine ADB.r 4 rfl (rdP_build rfl pl_63 ze_63 rfl rfl) rfl ?_; exact ADB.use key3_1
    refine ⟨_, rfl, rfl, calloR (xget_c g (ex2 r) (ex2_ok h).ok) [0] ?_⟩; rintro y os' ⟨rfl, rfl⟩; refine ADB.noR ?_; refine ADB.mv 0 rfl (AOpB.op (ARd.opB (qN ag_51) ?_)); refine ADB.n ?_; refine ADB.r 4 rfl (rdP_build rfl pl_63 ze_63 rfl rfl) rfl ?_; exact ADB.use key3_1
   refine ⟨_, rfl, rfl, calloR (xget_c g (ex2 r) (ex2_ok h).ok) [0] ?_⟩; rintro y os' ⟨rfl, rfl⟩; refine ADB.noR ?_; refine ADB.all (is := [0, 1]) (by kernel_rfl) (by simp) ?_; intro i hi; simp only [List.mem_cons, List.not_mem_nil, or_false] at hi
   rcases hi with rfl | rfl
   ·refine ⟨_, rfl, rfl, AOpB.op (ARd.opB (qN ag_51) ?_)⟩; refine ADB.n ?_; refine ADB.mv 1 rfl (AOpB.op (ARd.opB (qN ag_51) ?_)); refine ADB.n ?_; refine ADB.r 4 rfl (rdP_build rfl pl_63 ze_63 rfl rfl) rfl ?_; exact ADB.use key3_1
   refine ⟨_, rfl, rfl, AOpB.op (ARd.opB (qN ag_51) ?_)⟩; refine ADB.n ?_; refine ADB.mv 0 rfl (AOpB.op (ARd.opB (qN ag_51) ?_)); refine ADB.n ?_; refine ADB.r 4 rfl (rdP_build rfl pl_63 ze_63 rfl rfl) rfl ?_; exact ADB.use key3_1
  refine ADB.mv 6 rfl (oS sz_63 ?_); refine ADB.n ?_; refine ADB.done (by kernel_rfl) ?_; change AW _ _ _ _ _; refine AW.seq (AW.g (AL.rm ?_)); refine AL.oq (calloR (rbad_c g (ex3 r)) [0] ?_); rintro y os' ⟨rfl, rfl⟩; refine AL.noR ?_; refine AL.nil (AW.cd rfl (fun h16 => ?_) (fun h16 => ?_))
  ·refine AW.g (AL.r (qB pl_63 ze_63) ?_); refine AL.oq (oS sz_63 ?_); refine AL.no ?_; refine AL.nil (AW.ret ?_)
   repeat with_reducible first | refine thenA_ret ?_ | refine inBlockA_ret ?_
   with_reducible first | refine retO_ret ?_ | refine retO_normal ?_
   refine reso1R rfl (ResV.cells rfl rfl ag_63 (Nat.le_of_ble_eq_true rfl) rfl) rfl ?_; rw [getE, if_pos (by assumption)]; exact ⟨rfl, rfl⟩
  refine AW.skip (AW.seq (AW.g (AL.r (qN ag_63) ?_))); refine AL.cl (tedge_c (rawE r)) ?_; refine AL.no ?_; refine AL.r qu ?_; refine AL.nil (AW.cd rfl (fun h20 => ?_) (fun h20 => ?_))
  ·refine AW.g (AL.rm ?_); refine AL.oq (calloR (rspoil_c g (ex3 r)) [0] ?_); rintro y os' ⟨rfl, rfl⟩; refine AL.noR ?_; refine AL.nil (AW.g (AL.r (qB pl_63 ze_63) ?_)); refine AL.oq (oS sz_63 ?_); refine AL.no ?_; refine AL.nil (AW.ret ?_)
   repeat with_reducible first | refine thenA_ret ?_ | refine inBlockA_ret ?_
   with_reducible first | refine retO_ret ?_ | refine retO_normal ?_
   refine reso1R rfl (ResV.cells rfl rfl ag_63 (Nat.le_of_ble_eq_true rfl) rfl) rfl ?_; rw [getE, if_neg (by simp_all), if_neg (by simp_all)]; exact ⟨rfl, rfl⟩
  refine AW.skip (AW.g (AL.r (qN ag_63) ?_)); refine AL.oq (oS sz_63 ?_); refine AL.no ?_; refine AL.nil (AW.ret ?_)
  repeat with_reducible first | refine thenA_ret ?_ | refine inBlockA_ret ?_
  with_reducible first | refine retO_ret ?_ | refine retO_normal ?_
  refine reso1R rfl (ResV.cells rfl rfl ag_63 (Nat.le_of_ble_eq_true rfl) rfl) rfl ?_; rw [getE, if_neg (by simp_all), if_pos (by simp_all)]; exact ⟨rfl, rfl⟩
theorem rvec_c (h : r.Ok) : ACo Try.prog 26 [.bx 0 g 0] (RdrT g r) (fun y os' => y = .ag [AI (rvecP r).1.a, AI (rvecP r).1.b, AI (rvecP r).1.c, AI (rvecP r).1.d, AI (rvecP r).1.e, AI (rvecP r).1.f] ∧ os' = RdrT g (rvecP r).2) := by
  refine ACo.of' (st0 := [⟨g, .box 101 [.sl (byA r.b), .sc (.int .i64 r.f), .sc (.int .i64 r.at_), .sc (.bool r.bad)]⟩, TK.mk 0 .off, TK.mk 0 .off]) 16 2 Try.func26 rfl 1 ?_; refine AW.g (AL.oq (AOpB.op (oA 1 ze_23 ?_))); refine AL.no ?_; refine AL.nil (AW.g (AL.oq (AOpB.op (oA 2 ze_23 ?_)))); refine AL.no ?_; refine AL.nil (AW.seq (AW.g (AL.rm ?_))); refine AL.nil (AW.block (AW.unroll 7 ?_)); change AW _ _ _ _ _; refine AW.g (AL.r qb ?_); refine AL.nil (AW.seq (AW.cond_t rfl (AW.skip (AW.seq (AW.block (AW.g (AL.rm ?_))))))); refine AL.ra ?_; refine AL.nil (AW.region ?_); (iterate 2 refine AL.rm ?_); refine AL.oq (calloR (rnum_c g r h) [0] ?_); rintro y os' ⟨rfl, rfl⟩; refine AL.noR ?_; refine AL.r (rd_iaddr_bx_ 0 rfl ar_23 rfl rfl rfl) ?_; refine AL.oq (oS sz_3 ?_); refine AL.no ?_; refine AL.nil (AW.region (AL.r (rd_arith_add rfl rfl rfl (rfl : _ = (1 : Int))) ?_)); refine AL.rm ?_; refine AL.nil (AW.g (AL.r qb ?_)); refine AL.nil (AW.seq (AW.cond_t rfl (AW.skip (AW.seq (AW.block (AW.g (AL.rm ?_))))))); refine AL.ra ?_; refine AL.nil ?_
  change AW _ _ _ _ _; refine AW.region ?_; (iterate 2 refine AL.rm ?_); refine AL.oq (calloR (rnum_c g (vn r 1) (vn_ok h 1).ok) [0] ?_); rintro y os' ⟨rfl, rfl⟩; refine AL.noR ?_; refine AL.r (rd_iaddr_bx_ 1 rfl ar_23 rfl rfl rfl) ?_; refine AL.oq (oS sz_3 ?_); refine AL.no ?_; refine AL.nil (AW.region (AL.r (rd_arith_add rfl rfl rfl (rfl : _ = (2 : Int))) ?_)); refine AL.rm ?_; refine AL.nil (AW.g (AL.r qb ?_)); refine AL.nil (AW.seq (AW.cond_t rfl (AW.skip (AW.seq (AW.block (AW.g (AL.rm ?_))))))); refine AL.ra ?_; refine AL.nil (AW.region (AL.rm ?_)); refine AL.rm ?_; refine AL.oq (calloR (rnum_c g (vn r 2) (vn_ok h 2).ok) [0] ?_); rintro y os' ⟨rfl, rfl⟩; refine AL.noR ?_; refine AL.r (rd_iaddr_bx_ 2 rfl ar_23 rfl rfl rfl) ?_; refine AL.oq (oS sz_3 ?_); refine AL.no ?_; refine AL.nil (AW.region (AL.r (rd_arith_add rfl rfl rfl (rfl : _ = (3 : Int))) ?_)); refine AL.rm ?_; refine AL.nil (AW.g (AL.r qb ?_)); refine AL.nil (AW.seq (AW.cond_t rfl (AW.skip (AW.seq (AW.block (AW.g (AL.rm ?_))))))); refine AL.ra ?_; refine AL.nil (AW.region ?_); (iterate 2 refine AL.rm ?_); refine AL.oq (calloR (rnum_c g (vn r 3) (vn_ok h 3).ok) [0] ?_)
  rintro y os' ⟨rfl, rfl⟩; refine AL.noR ?_; refine AL.r (rd_iaddr_bx_ 3 rfl ar_23 rfl rfl rfl) ?_; refine AL.oq (oS sz_3 ?_); refine AL.no ?_; refine AL.nil (AW.region (AL.r (rd_arith_add rfl rfl rfl (rfl : _ = (4 : Int))) ?_)); refine AL.rm ?_; refine AL.nil (AW.g (AL.r qb ?_)); refine AL.nil (AW.seq (AW.cond_t rfl (AW.skip (AW.seq (AW.block (AW.g (AL.rm ?_))))))); refine AL.ra ?_; refine AL.nil (AW.region ?_); (iterate 2 refine AL.rm ?_); refine AL.oq (calloR (rnum_c g (vn r 4) (vn_ok h 4).ok) [0] ?_); rintro y os' ⟨rfl, rfl⟩; refine AL.noR ?_; refine AL.r (rd_iaddr_bx_ 4 rfl ar_23 rfl rfl rfl) ?_; refine AL.oq (oS sz_3 ?_); refine AL.no ?_; refine AL.nil (AW.region (AL.r (rd_arith_add rfl rfl rfl (rfl : _ = (5 : Int))) ?_)); refine AL.rm ?_; refine AL.nil (AW.g (AL.r qb ?_)); refine AL.nil (AW.seq (AW.cond_t rfl (AW.skip (AW.seq (AW.block (AW.g (AL.rm ?_))))))); refine AL.ra ?_; refine AL.nil (AW.region ?_); (iterate 2 refine AL.rm ?_); refine AL.oq (calloR (rnum_c g (vn r 5) (vn_ok h 5).ok) [0] ?_); rintro y os' ⟨rfl, rfl⟩; refine AL.noR ?_; refine AL.r (rd_iaddr_bx_ 5 rfl ar_23 rfl rfl rfl) ?_; refine AL.oq (oS sz_3 ?_); refine AL.no ?_
  refine AL.nil (AW.region (AL.r (rd_arith_add rfl rfl rfl (rfl : _ = (6 : Int))) ?_)); refine AL.rm ?_; refine AL.nil (AW.g (AL.r qb ?_)); refine AL.nil (AW.seq (AW.cond_f rfl (AW.exit ?_))); change AW _ _ _ _ _; refine AW.seq (AW.g (AL.rm ?_)); refine AL.oq (calloR (rbad_c g (vn r 6)) [0] ?_); rintro y os' ⟨rfl, rfl⟩; refine AL.noR ?_; refine AL.nil (AW.cd rfl (fun h14 => ?_) (fun h14 => ?_))
  ·refine AW.g (AL.r (rd_buildA rfl ar_23 ze_23 rfl rfl) ?_); refine AL.oq (oS sz_23 ?_); refine AL.no ?_; refine AL.nil (AW.ret ?_)
   repeat with_reducible first | refine thenA_ret ?_ | refine inBlockA_ret ?_
   with_reducible first | refine retO_ret ?_ | refine retO_normal ?_
   refine reso1R rfl (ResV.cells rfl rfl ag_23 (Nat.le_of_ble_eq_true rfl) rfl) rfl ?_; rw [rvecP, if_pos (by assumption)]; exact ⟨rfl, rfl⟩
  refine AW.skip (AW.g (AL.r (qN ag_23) ?_)); refine AL.oq (oS sz_23 ?_); refine AL.no ?_; refine AL.nil (AW.ret ?_)
  repeat with_reducible first | refine thenA_ret ?_ | refine inBlockA_ret ?_
  with_reducible first | refine retO_ret ?_ | refine retO_normal ?_
  refine reso1R rfl (ResV.cells rfl rfl ag_23 (Nat.le_of_ble_eq_true rfl) rfl) rfl ?_; rw [rvecP, if_neg (by simp_all)]; exact ⟨rfl, rfl⟩
theorem small_c (h : r.Ok) : ACo Try.prog 25 [.bx 0 g 0] (RdrT g r) (fun y os' => y = AI (smP (numP r).1) ∧ os' = RdrT g (numP r).2) := by
  refine ACo.of' (st0 := [⟨g, .box 101 [.sl (byA r.b), .sc (.int .i64 r.f), .sc (.int .i64 r.at_), .sc (.bool r.bad)]⟩]) 12 0 Try.func25 rfl 1 ?_; refine AW.g (AL.ra ?_); refine AL.nil (AW.g (AL.rm ?_)); refine AL.oq (calloR (rnum_c g r h) [0] ?_); rintro y os' ⟨rfl, rfl⟩; refine AL.noR ?_; refine AL.ra ?_; refine AL.nil (AW.seq (AW.g (AL.rm ?_))); refine AL.r qb ?_; refine AL.rm ?_; refine AL.fk (d := 8) rfl (fun h8 => ?_) (fun h8 => ?_)
  ·refine AL.n ?_; (iterate 2 refine AL.rf ?_); refine AL.r qt ?_; refine AL.nil (AW.cond_t rfl (AW.g (AL.ra ?_))); refine AL.nil (AW.ret ?_)
   repeat with_reducible first | refine thenA_ret ?_ | refine inBlockA_ret ?_
   with_reducible first | refine retO_ret ?_ | refine retO_normal ?_
   refine reso1R rfl (ResV.tmp rfl) rfl ?_; rw [smP, if_pos (by omega)]; exact ⟨rfl, rfl⟩
  refine AL.n ?_; refine AL.ro (rd_move rfl rfl) ?_; refine AL.ro qb ?_; refine AL.r qf ?_; refine AL.nil (AW.cd rfl (fun h11 => ?_) (fun h11 => ?_))
  ·refine AW.g (AL.ra ?_); refine AL.nil (AW.ret ?_)
   repeat with_reducible first | refine thenA_ret ?_ | refine inBlockA_ret ?_
   with_reducible first | refine retO_ret ?_ | refine retO_normal ?_
   refine reso1R rfl (ResV.tmp rfl) rfl ?_; rw [smP, if_pos (by omega)]; exact ⟨rfl, rfl⟩
  refine AW.skip (AW.g (AL.rm ?_)); refine AL.ra ?_; refine AL.nil (AW.ret ?_)
  repeat with_reducible first | refine thenA_ret ?_ | refine inBlockA_ret ?_
  with_reducible first | refine retO_ret ?_ | refine retO_normal ?_
  refine reso1R rfl (ResV.tmp rfl) rfl ?_; rw [smP, if_neg (by omega)]; exact ⟨rfl, rfl⟩
end
end Go.Proofs.Ytlapcfnmmpbeeaa
