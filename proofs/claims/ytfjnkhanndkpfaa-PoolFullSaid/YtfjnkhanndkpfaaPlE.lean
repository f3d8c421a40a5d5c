/- Pools: copies, pools as objects, and a pool that is not there, walked over abstract states. No conditions. -/
import Derived.Test.YtfjnkhanndkpfaaPlC
import Derived.Test.YtfjnkhanndkpfaaPlD
namespace Go.Proofs.Ytfjnkhanndkpfaa
set_option linter.unusedSimpArgs false
set_option linter.unusedVariables false
set_option maxRecDepth 100000
set_option maxRecDepth 100000
open Go.RowKit

def poolT7 (g g1 g2 g3 g4 g5 g6 : Nat) (p : PoolD) : List TK := [⟨g, .box 114 [.ow 8 g1, .ow 9 g2, .ow 10 g3, .ow 11 g4, .ow 12 g5, .ow 13 g6]⟩,
  ⟨g1, owM true 47 15 ((p 0).map OpD.cs)⟩, ⟨g2, owM true 47 15 ((p 1).map OpD.cs)⟩, ⟨g3, owM true 47 15 ((p 2).map OpD.cs)⟩, ⟨g4, owM true 47 15 ((p 3).map OpD.cs)⟩, ⟨g5, owM true 47 15 ((p 4).map OpD.cs)⟩, ⟨g6, owM true 47 15 ((p 5).map OpD.cs)⟩]
section
variable {P : Program} {o : Oper} {t : List AV} {st : List TK} {ops : Array Oper} {l : List Oper} {fuel : Nat} {listed : Array Bool}
theorem calloQ {xs : Array Operand} {Ts : Array TypeId} {K : AV → List TK → Prop} {f : FuncId} {ys : List AV} {os : List TK} {R : AV → List TK → Prop} (hC : ACo P f ys os R) (ks : List Nat) (h : ∀ y os', R y os' → K (ren2 ks y) (putT ks st ks os')) (ho : o.op = .call { callee := .value (.func f), args := xs, argTypes := Ts } := by rfl) (hok : callOk P f = true := by kernel_rfl) (hnd : ks.Nodup := by decide) (hsub : subT st ks (os.map (renT ks)) := by simp only [poolT, poolT7, OpD.cs, List.cons_append, List.nil_append, List.map_cons, List.map_nil, renT, renC_owM, renC_box, renC_own, renC_nown, renC_obj, renC_off, ren0, List.getD_cons_zero, List.getD_cons_succ]; repeat (first | exact trivial | refine ⟨rfl, ?_⟩)) (hargs : xs.toList.map (fun x => nzA (evA t x)) = ys.map (ren1 ks) := by rfl) (hoa : ys.all (ok1 os) = true := by simp only [poolT, poolT7, OpD.cs, List.cons_append, List.nil_append, cleanS, cle_owM, cle_own, cle_nown, cle_obj, cle_off, cle_box, okC, liveA, List.take_succ_cons, List.take_zero, List.all_cons, List.all_nil, List.getElem?_cons_zero, List.getElem?_cons_succ, isO_owM, isO_own, isO_nown, TC.isB, beq_self_eq_true, Bool.and_self, Bool.and_true, ok1, ok2, List.map_cons, List.map_nil]) (hcl : cleanS os = true := by simp only [poolT, poolT7, OpD.cs, List.cons_append, List.nil_append, cleanS, cle_owM, cle_own, cle_nown, cle_obj, cle_off, cle_box, okC, liveA, List.take_succ_cons, List.take_zero, List.all_cons, List.all_nil, List.getElem?_cons_zero, List.getElem?_cons_succ, isO_owM, isO_own, isO_nown, TC.isB, beq_self_eq_true, Bool.and_self, Bool.and_true, ok1, ok2, List.map_cons, List.map_nil]) : AOp P o t st K := op_callo hC ho hok ks hnd hsub hargs hoa hcl h
theorem centrQ {K : AV → List TK → Prop} {f : FuncId} {us ys : List AV} {os : List TK} {R : AV → List TK → Prop} (hC : ACo P f ys os R) (hE : Ent P o t st f us) (ks : List Nat) (h : ∀ y os', R y os' → K (ren2 ks y) (putT ks st ks os')) (hnd : ks.Nodup := by decide) (hsub : subT st ks (os.map (renT ks)) := by simp only [poolT, poolT7, OpD.cs, List.cons_append, List.nil_append, List.map_cons, List.map_nil, renT, renC_owM, renC_box, renC_own, renC_nown, renC_obj, renC_off, ren0, List.getD_cons_zero, List.getD_cons_succ]; repeat (first | exact trivial | refine ⟨rfl, ?_⟩)) (hargs : us.map nzA = ys.map (ren1 ks) := by rfl) (hoa : ys.all (ok1 os) = true := by simp only [poolT, poolT7, OpD.cs, List.cons_append, List.nil_append, cleanS, cle_owM, cle_own, cle_nown, cle_obj, cle_off, cle_box, okC, liveA, List.take_succ_cons, List.take_zero, List.all_cons, List.all_nil, List.getElem?_cons_zero, List.getElem?_cons_succ, isO_owM, isO_own, isO_nown, TC.isB, beq_self_eq_true, Bool.and_self, Bool.and_true, ok1, ok2, List.map_cons, List.map_nil]) (hcl : cleanS os = true := by simp only [poolT, poolT7, OpD.cs, List.cons_append, List.nil_append, cleanS, cle_owM, cle_own, cle_nown, cle_obj, cle_off, cle_box, okC, liveA, List.take_succ_cons, List.take_zero, List.all_cons, List.all_nil, List.getElem?_cons_zero, List.getElem?_cons_succ, isO_owM, isO_own, isO_nown, TC.isB, beq_self_eq_true, Bool.and_self, Bool.and_true, ok1, ok2, List.map_cons, List.map_nil]) : AOp P o t st K := op_enter hC hE ks hnd hsub hargs hoa hcl h
theorem AL.noQ {K : List AV → List TK → Prop} {t' : List AV} {st' : List TK} (h : AL P ops K l t' st') (ht : t = t' := by (try simp only [poolT, poolT7, OpD.cs, List.cons_append, List.nil_append, putA, evA, List.getD_cons_zero, List.getD_cons_succ, List.set_cons_zero, List.set_cons_succ, List.length_map, KR, splA, List.map_cons, List.map_nil, List.length_append, List.length_cons, List.length_nil, List.drop_zero, csS_len, csS_take, csS_drop, csS_app, byA_len, byA_take, byA_drop, byA_app, ← List.map_take, ← List.map_drop, ← List.map_append, List.take_succ_cons, List.take_zero, List.drop_succ_cons, List.cons_append, List.nil_append, Nat.zero_add, Nat.reduceAdd, Nat.reduceMul, Nat.add_zero, Nat.mul_one, putT, renT, renC_owM, renC_box, renC_own, renC_nown, renC_obj, renC_off, ren2, ren1, ren0, ok1, ok2]); (try rfl)) (hs : st = st' := by (try simp only [poolT, poolT7, OpD.cs, List.cons_append, List.nil_append, putA, evA, List.getD_cons_zero, List.getD_cons_succ, List.set_cons_zero, List.set_cons_succ, List.length_map, KR, splA, List.map_cons, List.map_nil, List.length_append, List.length_cons, List.length_nil, List.drop_zero, csS_len, csS_take, csS_drop, csS_app, byA_len, byA_take, byA_drop, byA_app, ← List.map_take, ← List.map_drop, ← List.map_append, List.take_succ_cons, List.take_zero, List.drop_succ_cons, List.cons_append, List.nil_append, Nat.zero_add, Nat.reduceAdd, Nat.reduceMul, Nat.add_zero, Nat.mul_one, putT, renT, renC_owM, renC_box, renC_own, renC_nown, renC_obj, renC_off, ren2, ren1, ren0, ok1, ok2]); (try rfl)) : AL P ops K l t st := by subst ht hs; exact h
theorem ADB.noQ {K : List AV → List TK → Prop} {t' : List AV} {st' : List TK} (h : ADB P l K fuel listed t' st') (ht : t = t' := by (try simp only [poolT, poolT7, OpD.cs, List.cons_append, List.nil_append, putA, evA, List.getD_cons_zero, List.getD_cons_succ, List.set_cons_zero, List.set_cons_succ, List.length_map, KR, splA, List.map_cons, List.map_nil, List.length_append, List.length_cons, List.length_nil, List.drop_zero, csS_len, csS_take, csS_drop, csS_app, byA_len, byA_take, byA_drop, byA_app, ← List.map_take, ← List.map_drop, ← List.map_append, List.take_succ_cons, List.take_zero, List.drop_succ_cons, List.cons_append, List.nil_append, Nat.zero_add, Nat.reduceAdd, Nat.reduceMul, Nat.add_zero, Nat.mul_one, putT, renT, renC_owM, renC_box, renC_own, renC_nown, renC_obj, renC_off, ren2, ren1, ren0, ok1, ok2]); (try rfl)) (hs : st = st' := by (try simp only [poolT, poolT7, OpD.cs, List.cons_append, List.nil_append, putA, evA, List.getD_cons_zero, List.getD_cons_succ, List.set_cons_zero, List.set_cons_succ, List.length_map, KR, splA, List.map_cons, List.map_nil, List.length_append, List.length_cons, List.length_nil, List.drop_zero, csS_len, csS_take, csS_drop, csS_app, byA_len, byA_take, byA_drop, byA_app, ← List.map_take, ← List.map_drop, ← List.map_append, List.take_succ_cons, List.take_zero, List.drop_succ_cons, List.cons_append, List.nil_append, Nat.zero_add, Nat.reduceAdd, Nat.reduceMul, Nat.add_zero, Nat.mul_one, putT, renT, renC_owM, renC_box, renC_own, renC_nown, renC_obj, renC_off, ren2, ren1, ren0, ok1, ok2]); (try rfl)) : ADB P l K fuel listed t st := by subst ht hs; exact h
theorem reso0Q {fn : Func} {n : Nat} {R : AV → List TK → Prop} (hr : fn.results = #[]) (h : R (.tu []) (st.take n)) (hn : n ≤ st.length := by exact Nat.le_of_ble_eq_true rfl) (hc : cleanS (st.take n) = true := by simp only [poolT, poolT7, OpD.cs, List.cons_append, List.nil_append, cleanS, cle_owM, cle_own, cle_nown, cle_obj, cle_off, cle_box, okC, liveA, List.take_succ_cons, List.take_zero, List.all_cons, List.all_nil, List.getElem?_cons_zero, List.getElem?_cons_succ, isO_owM, isO_own, isO_nown, TC.isB, beq_self_eq_true, Bool.and_self, Bool.and_true, ok1, ok2, List.map_cons, List.map_nil]) : ResO P fn n R t st := reso0 hr hn hc h
theorem reso1Q {fn : Func} {n : Nat} {R : AV → List TK → Prop} {r1 : ResultVar} {z1 y1 : AV} (hr : fn.results = #[r1]) (h1 : ResV P t st r1 z1) (hz1 : resO1 n st z1 = some y1) (h : R (y1) (st.take n)) (hn : n ≤ st.length := by exact Nat.le_of_ble_eq_true rfl) (hc : cleanS (st.take n) = true := by simp only [poolT, poolT7, OpD.cs, List.cons_append, List.nil_append, cleanS, cle_owM, cle_own, cle_nown, cle_obj, cle_off, cle_box, okC, liveA, List.take_succ_cons, List.take_zero, List.all_cons, List.all_nil, List.getElem?_cons_zero, List.getElem?_cons_succ, isO_owM, isO_own, isO_nown, TC.isB, beq_self_eq_true, Bool.and_self, Bool.and_true, ok1, ok2, List.map_cons, List.map_nil]) (hok : ok2 (st.take n) (y1) = true := by simp only [poolT, poolT7, OpD.cs, List.cons_append, List.nil_append, cleanS, cle_owM, cle_own, cle_nown, cle_obj, cle_off, cle_box, okC, liveA, List.take_succ_cons, List.take_zero, List.all_cons, List.all_nil, List.getElem?_cons_zero, List.getElem?_cons_succ, isO_owM, isO_own, isO_nown, TC.isB, beq_self_eq_true, Bool.and_self, Bool.and_true, ok1, ok2, List.map_cons, List.map_nil]) : ResO P fn n R t st := reso1 hr hn hc h1 hz1 hok h
theorem reso2Q {fn : Func} {n : Nat} {R : AV → List TK → Prop} {r1 r2 : ResultVar} {z1 y1 z2 y2 : AV} (hr : fn.results = #[r1, r2]) (h1 : ResV P t st r1 z1) (hz1 : resO1 n st z1 = some y1) (h2 : ResV P t st r2 z2) (hz2 : resO1 n st z2 = some y2) (h : R (.tu [y1, y2]) (st.take n)) (hn : n ≤ st.length := by exact Nat.le_of_ble_eq_true rfl) (hc : cleanS (st.take n) = true := by simp only [poolT, poolT7, OpD.cs, List.cons_append, List.nil_append, cleanS, cle_owM, cle_own, cle_nown, cle_obj, cle_off, cle_box, okC, liveA, List.take_succ_cons, List.take_zero, List.all_cons, List.all_nil, List.getElem?_cons_zero, List.getElem?_cons_succ, isO_owM, isO_own, isO_nown, TC.isB, beq_self_eq_true, Bool.and_self, Bool.and_true, ok1, ok2, List.map_cons, List.map_nil]) (hok : ok2 (st.take n) (.tu [y1, y2]) = true := by simp only [poolT, poolT7, OpD.cs, List.cons_append, List.nil_append, cleanS, cle_owM, cle_own, cle_nown, cle_obj, cle_off, cle_box, okC, liveA, List.take_succ_cons, List.take_zero, List.all_cons, List.all_nil, List.getElem?_cons_zero, List.getElem?_cons_succ, isO_owM, isO_own, isO_nown, TC.isB, beq_self_eq_true, Bool.and_self, Bool.and_true, ok1, ok2, List.map_cons, List.map_nil]) : ResO P fn n R t st := reso2 hr hn hc h1 hz1 h2 hz2 hok h
theorem reso3Q {fn : Func} {n : Nat} {R : AV → List TK → Prop} {r1 r2 r3 : ResultVar} {z1 y1 z2 y2 z3 y3 : AV} (hr : fn.results = #[r1, r2, r3]) (h1 : ResV P t st r1 z1) (hz1 : resO1 n st z1 = some y1) (h2 : ResV P t st r2 z2) (hz2 : resO1 n st z2 = some y2) (h3 : ResV P t st r3 z3) (hz3 : resO1 n st z3 = some y3) (h : R (.tu [y1, y2, y3]) (st.take n)) (hn : n ≤ st.length := by exact Nat.le_of_ble_eq_true rfl) (hc : cleanS (st.take n) = true := by simp only [poolT, poolT7, OpD.cs, List.cons_append, List.nil_append, cleanS, cle_owM, cle_own, cle_nown, cle_obj, cle_off, cle_box, okC, liveA, List.take_succ_cons, List.take_zero, List.all_cons, List.all_nil, List.getElem?_cons_zero, List.getElem?_cons_succ, isO_owM, isO_own, isO_nown, TC.isB, beq_self_eq_true, Bool.and_self, Bool.and_true, ok1, ok2, List.map_cons, List.map_nil]) (hok : ok2 (st.take n) (.tu [y1, y2, y3]) = true := by simp only [poolT, poolT7, OpD.cs, List.cons_append, List.nil_append, cleanS, cle_owM, cle_own, cle_nown, cle_obj, cle_off, cle_box, okC, liveA, List.take_succ_cons, List.take_zero, List.all_cons, List.all_nil, List.getElem?_cons_zero, List.getElem?_cons_succ, isO_owM, isO_own, isO_nown, TC.isB, beq_self_eq_true, Bool.and_self, Bool.and_true, ok1, ok2, List.map_cons, List.map_nil]) : ResO P fn n R t st := reso3 hr hn hc h1 hz1 h2 hz2 h3 hz3 hok h
end
def PoolAt7 (g : Nat) (p : PoolD) (os : List TK) : Prop := ∃ g1 g2 g3 g4 g5 g6, os = poolT7 g g1 g2 g3 g4 g5 g6 p
section
variable (p : PoolD) (hok : OkP p) (g g1 g2 g3 g4 g5 g6 h0 h1 h2 h3 h4 h5 h6 : Nat)
include hok
set_option maxHeartbeats 1000000 in
theorem pcopy_c : ACo Try.prog 40 [.bx 0 g 0] (poolT g g1 g2 g3 g4 g5 g6 p ++ [⟨h0, .off⟩, ⟨h1, .off⟩, ⟨h2, .off⟩, ⟨h3, .off⟩, ⟨h4, .off⟩, ⟨h5, .off⟩, ⟨h6, .off⟩])
    (fun y os' => y = .bx 7 (h0 + 1) 0 ∧ ∃ ts, PoolAt7 (h0 + 1) p ts ∧ os' = poolT g g1 g2 g3 g4 g5 g6 p ++ ts) := by
  have htot := hok.tot
  refine ACo.of' (st0 := [⟨g, .box 114 [.ow 1 g1, .ow 2 g2, .ow 3 g3, .ow 4 g4, .ow 5 g5, .ow 6 g6]⟩, ⟨g1, owM true 47 15 ((p 0).map OpD.cs)⟩, ⟨g2, owM true 47 15 ((p 1).map OpD.cs)⟩, ⟨g3, owM true 47 15 ((p 2).map OpD.cs)⟩, ⟨g4, owM true 47 15 ((p 3).map OpD.cs)⟩, ⟨g5, owM true 47 15 ((p 4).map OpD.cs)⟩, ⟨g6, owM true 47 15 ((p 5).map OpD.cs)⟩, ⟨h0, .off⟩, ⟨h1, .off⟩, ⟨h2, .off⟩, ⟨h3, .off⟩, ⟨h4, .off⟩, ⟨h5, .off⟩, ⟨h6, .off⟩, TK.mk 0 .off]) 25 1 Try.func40 rfl 14 ?_
  refine AW.seq ?_
  refine AW.region ?_
  refine AL.ra ?_
  refine AL.nil ?_
  change AW _ _ _ _ _
  refine AW.seq ?_
  refine AW.seq ?_
  refine AW.region ?_
  refine AL.rm ?_
  refine AL.r (rd_peq_bx rfl pt_41 rfl rfl rfl) ?_
  refine AL.nil ?_
  change AW _ _ _ _ _
  refine AW.cond_f rfl ?_
  refine AW.skip ?_
  change AW _ _ _ _ _
  refine AW.seq ?_
  refine AW.region ?_
  refine AL.op rfl (calloP (pnew_c h0 h1 h2 h3 h4 h5 h6) [7, 8, 9, 10, 11, 12, 13] ?_)
  rintro y os' ⟨rfl, a1, a2, a3, a4, a5, a6, rfl⟩
  refine AL.noP ?_
  refine AL.ra ?_
  refine AL.nil ?_
  change AW _ _ _ _ _
  refine AW.seq ?_
  refine AW.seq ?_
  refine AW.region ?_
  refine AL.rm ?_
  refine AL.r (rd_nilc_bx rfl rfl rfl) ?_
  refine AL.r (rd_faddr_bx rfl fo_114_0 rfl rfl ⟨_, _, rfl⟩) ?_
  refine AL.r (rd_loadN_bx rfl ag_112 rfl rfl (Nat.le_of_ble_eq_true rfl) rfl) ?_
  refine AL.rm ?_
  refine AL.nil ?_
  change AW _ _ _ _ _
  refine AW.block ?_
  refine AW.unroll 7 ?_
  change AW _ _ _ _ _
  refine AW.seq ?_
  refine AW.region ?_
  refine AL.r (rd_bin rfl rfl rfl (fun _ => rfl)) ?_
  refine AL.nil ?_
  change AW _ _ _ _ _
  refine AW.seq ?_
  refine AW.cond_t rfl ?_
  refine AW.skip ?_
  change AW _ _ _ _ _
  refine AW.seq ?_
  refine AW.block ?_
  refine AW.seq ?_
  refine AW.region ?_
  refine AL.rm ?_
  refine AL.r (rd_index_ag (i := 0) rfl ar_112 ag_50 rfl rfl (by first | rfl | omega) (by decide) rfl) ?_
  refine AL.ra ?_
  refine AL.ra ?_
  refine AL.nil ?_
  change AW _ _ _ _ _
  apply AW.drawS (by kernel_rfl)
  ·skip
   refine ADA.r 0 rfl (ARdP.a (rdP_move rfl rfl)) rfl ?_
   refine ADA.r 1 rfl (ARdP.a (rdP_move rfl rfl)) rfl ?_
   refine ADA.r 2 rfl (ARdP.a (rdP_move rfl rfl)) rfl ?_
   refine ADA.r 4 rfl (ARdP.a (rdP_nilc_bx rfl rfl rfl)) rfl ?_
   refine ADA.r 5 rfl (ARdP.a (rdP_faddr_bx rfl fo_114_0 rfl rfl ⟨_, _, rfl⟩)) rfl ?_
   refine ADA.b ?_
   refine ADB.mv 3 rfl (op_append0M 8 rfl ap_50 rfl rfl (src_owM rfl rfl) (by simp; omega) (by simp; omega) ?_)
   refine ADB.n ?_
   refine ADB.r 6 rfl (rdP_iaddr_bx_ 0 rfl ar_112 rfl rfl rfl) rfl ?_
   refine ADB.mv 7 rfl (op_storo rfl rfl rfl rfl rfl sz_50 ?_)
   refine ADB.n ?_
   refine ADB.done (by kernel_rfl) ?_
   exact ⟨rfl, rfl⟩
  skip
  change AW _ _ _ _ _
  refine AW.region ?_
  refine AL.r (rd_arith_add rfl rfl rfl (rfl : _ = (1 : Int))) ?_
  refine AL.rm ?_
  refine AL.nil ?_
  change AW _ _ _ _ _
  refine AW.seq ?_
  refine AW.region ?_
  refine AL.r (rd_bin rfl rfl rfl (fun _ => rfl)) ?_
  refine AL.nil ?_
  change AW _ _ _ _ _
  refine AW.seq ?_
  refine AW.cond_t rfl ?_
  refine AW.skip ?_
  change AW _ _ _ _ _
  refine AW.seq ?_
  refine AW.block ?_
  refine AW.seq ?_
  refine AW.region ?_
  refine AL.rm ?_
  refine AL.r (rd_index_ag (i := 1) rfl ar_112 ag_50 rfl rfl (by first | rfl | omega) (by decide) rfl) ?_
  refine AL.ra ?_
  refine AL.ra ?_
  refine AL.nil ?_
  change AW _ _ _ _ _
  apply AW.drawS (by kernel_rfl)
  ·skip
   refine ADA.r 0 rfl (ARdP.a (rdP_move rfl rfl)) rfl ?_
   refine ADA.r 1 rfl (ARdP.a (rdP_move rfl rfl)) rfl ?_
   refine ADA.r 2 rfl (ARdP.a (rdP_move rfl rfl)) rfl ?_
   refine ADA.r 4 rfl (ARdP.a (rdP_nilc_bx rfl rfl rfl)) rfl ?_
   refine ADA.r 5 rfl (ARdP.a (rdP_faddr_bx rfl fo_114_0 rfl rfl ⟨_, _, rfl⟩)) rfl ?_
   refine ADA.b ?_
   refine ADB.mv 3 rfl (op_append0M 9 rfl ap_50 rfl rfl (src_owM rfl rfl) (by simp; omega) (by simp; omega) ?_)
   refine ADB.n ?_
   refine ADB.r 6 rfl (rdP_iaddr_bx_ 1 rfl ar_112 rfl rfl rfl) rfl ?_
   refine ADB.mv 7 rfl (op_storo rfl rfl rfl rfl rfl sz_50 ?_)
   refine ADB.n ?_
   refine ADB.done (by kernel_rfl) ?_
   exact ⟨rfl, rfl⟩
  skip
  change AW _ _ _ _ _
  refine AW.region ?_
  refine AL.r (rd_arith_add rfl rfl rfl (rfl : _ = (2 : Int))) ?_
  refine AL.rm ?_
  refine AL.nil ?_
  change AW _ _ _ _ _
  refine AW.seq ?_
  refine AW.region ?_
  refine AL.r (rd_bin rfl rfl rfl (fun _ => rfl)) ?_
  refine AL.nil ?_
  change AW _ _ _ _ _
  refine AW.seq ?_
  refine AW.cond_t rfl ?_
  refine AW.skip ?_
  change AW _ _ _ _ _
  refine AW.seq ?_
  refine AW.block ?_
  refine AW.seq ?_
  refine AW.region ?_
  refine AL.rm ?_
  refine AL.r (rd_index_ag (i := 2) rfl ar_112 ag_50 rfl rfl (by first | rfl | omega) (by decide) rfl) ?_
  refine AL.ra ?_
  refine AL.ra ?_
  refine AL.nil ?_
  change AW _ _ _ _ _
  apply AW.drawS (by kernel_rfl)
  ·skip
   refine ADA.r 0 rfl (ARdP.a (rdP_move rfl rfl)) rfl ?_
   refine ADA.r 1 rfl (ARdP.a (rdP_move rfl rfl)) rfl ?_
   refine ADA.r 2 rfl (ARdP.a (rdP_move rfl rfl)) rfl ?_
   refine ADA.r 4 rfl (ARdP.a (rdP_nilc_bx rfl rfl rfl)) rfl ?_
   refine ADA.r 5 rfl (ARdP.a (rdP_faddr_bx rfl fo_114_0 rfl rfl ⟨_, _, rfl⟩)) rfl ?_
   refine ADA.b ?_
   refine ADB.mv 3 rfl (op_append0M 10 rfl ap_50 rfl rfl (src_owM rfl rfl) (by simp; omega) (by simp; omega) ?_)
   refine ADB.n ?_
   refine ADB.r 6 rfl (rdP_iaddr_bx_ 2 rfl ar_112 rfl rfl rfl) rfl ?_
   refine ADB.mv 7 rfl (op_storo rfl rfl rfl rfl rfl sz_50 ?_)
   refine ADB.n ?_
   refine ADB.done (by kernel_rfl) ?_
   exact ⟨rfl, rfl⟩
  skip
  change AW _ _ _ _ _
  refine AW.region ?_
  refine AL.r (rd_arith_add rfl rfl rfl (rfl : _ = (3 : Int))) ?_
  refine AL.rm ?_
  refine AL.nil ?_
  change AW _ _ _ _ _
  refine AW.seq ?_
  refine AW.region ?_
  refine AL.r (rd_bin rfl rfl rfl (fun _ => rfl)) ?_
  refine AL.nil ?_
  change AW _ _ _ _ _
  refine AW.seq ?_
  refine AW.cond_t rfl ?_
  refine AW.skip ?_
  change AW _ _ _ _ _
  refine AW.seq ?_
  refine AW.block ?_
  refine AW.seq ?_
  refine AW.region ?_
  refine AL.rm ?_
  refine AL.r (rd_index_ag (i := 3) rfl ar_112 ag_50 rfl rfl (by first | rfl | omega) (by decide) rfl) ?_
  refine AL.ra ?_
  refine AL.ra ?_
  refine AL.nil ?_
  change AW _ _ _ _ _
  apply AW.drawS (by kernel_rfl)
  ·skip
   refine ADA.r 0 rfl (ARdP.a (rdP_move rfl rfl)) rfl ?_
   refine ADA.r 1 rfl (ARdP.a (rdP_move rfl rfl)) rfl ?_
   refine ADA.r 2 rfl (ARdP.a (rdP_move rfl rfl)) rfl ?_
   refine ADA.r 4 rfl (ARdP.a (rdP_nilc_bx rfl rfl rfl)) rfl ?_
   refine ADA.r 5 rfl (ARdP.a (rdP_faddr_bx rfl fo_114_0 rfl rfl ⟨_, _, rfl⟩)) rfl ?_
   refine ADA.b ?_
   refine ADB.mv 3 rfl (op_append0M 11 rfl ap_50 rfl rfl (src_owM rfl rfl) (by simp; omega) (by simp; omega) ?_)
   refine ADB.n ?_
   refine ADB.r 6 rfl (rdP_iaddr_bx_ 3 rfl ar_112 rfl rfl rfl) rfl ?_
   refine ADB.mv 7 rfl (op_storo rfl rfl rfl rfl rfl sz_50 ?_)
   refine ADB.n ?_
   refine ADB.done (by kernel_rfl) ?_
   exact ⟨rfl, rfl⟩
  skip
  change AW _ _ _ _ _
  refine AW.region ?_
  refine AL.r (rd_arith_add rfl rfl rfl (rfl : _ = (4 : Int))) ?_
  refine AL.rm ?_
  refine AL.nil ?_
  change AW _ _ _ _ _
  refine AW.seq ?_
  refine AW.region ?_
  refine AL.r (rd_bin rfl rfl rfl (fun _ => rfl)) ?_
  refine AL.nil ?_
  change AW _ _ _ _ _
  refine AW.seq ?_
  refine AW.cond_t rfl ?_
  refine AW.skip ?_
  change AW _ _ _ _ _
  refine AW.seq ?_
  refine AW.block ?_
  refine AW.seq ?_
  refine AW.region ?_
  refine AL.rm ?_
  refine AL.r (rd_index_ag (i := 4) rfl ar_112 ag_50 rfl rfl (by first | rfl | omega) (by decide) rfl) ?_
  refine AL.ra ?_
  refine AL.ra ?_
  refine AL.nil ?_
  change AW _ _ _ _ _
  apply AW.drawS (by kernel_rfl)
  ·skip
   refine ADA.r 0 rfl (ARdP.a (rdP_move rfl rfl)) rfl ?_
   refine ADA.r 1 rfl (ARdP.a (rdP_move rfl rfl)) rfl ?_
   refine ADA.r 2 rfl (ARdP.a (rdP_move rfl rfl)) rfl ?_
   refine ADA.r 4 rfl (ARdP.a (rdP_nilc_bx rfl rfl rfl)) rfl ?_
   refine ADA.r 5 rfl (ARdP.a (rdP_faddr_bx rfl fo_114_0 rfl rfl ⟨_, _, rfl⟩)) rfl ?_
   refine ADA.b ?_
   refine ADB.mv 3 rfl (op_append0M 12 rfl ap_50 rfl rfl (src_owM rfl rfl) (by simp; omega) (by simp; omega) ?_)
   refine ADB.n ?_
   refine ADB.r 6 rfl (rdP_iaddr_bx_ 4 rfl ar_112 rfl rfl rfl) rfl ?_
   refine ADB.mv 7 rfl (op_storo rfl rfl rfl rfl rfl sz_50 ?_)
   refine ADB.n ?_
   refine ADB.done (by kernel_rfl) ?_
   exact ⟨rfl, rfl⟩
  skip
  change AW _ _ _ _ _
  refine AW.region ?_
  refine AL.r (rd_arith_add rfl rfl rfl (rfl : _ = (5 : Int))) ?_
  refine AL.rm ?_
  refine AL.nil ?_
  change AW _ _ _ _ _
  refine AW.seq ?_
  refine AW.region ?_
  refine AL.r (rd_bin rfl rfl rfl (fun _ => rfl)) ?_
  refine AL.nil ?_
  change AW _ _ _ _ _
  refine AW.seq ?_
  refine AW.cond_t rfl ?_
  refine AW.skip ?_
  change AW _ _ _ _ _
  refine AW.seq ?_
  refine AW.block ?_
  refine AW.seq ?_
  refine AW.region ?_
  refine AL.rm ?_
  refine AL.r (rd_index_ag (i := 5) rfl ar_112 ag_50 rfl rfl (by first | rfl | omega) (by decide) rfl) ?_
  refine AL.ra ?_
  refine AL.ra ?_
  refine AL.nil ?_
  change AW _ _ _ _ _
  apply AW.drawS (by kernel_rfl)
  ·skip
   refine ADA.r 0 rfl (ARdP.a (rdP_move rfl rfl)) rfl ?_
   refine ADA.r 1 rfl (ARdP.a (rdP_move rfl rfl)) rfl ?_
   refine ADA.r 2 rfl (ARdP.a (rdP_move rfl rfl)) rfl ?_
   refine ADA.r 4 rfl (ARdP.a (rdP_nilc_bx rfl rfl rfl)) rfl ?_
   refine ADA.r 5 rfl (ARdP.a (rdP_faddr_bx rfl fo_114_0 rfl rfl ⟨_, _, rfl⟩)) rfl ?_
   refine ADA.b ?_
   refine ADB.mv 3 rfl (op_append0M 13 rfl ap_50 rfl rfl (src_owM rfl rfl) (by simp; omega) (by simp; omega) ?_)
   refine ADB.n ?_
   refine ADB.r 6 rfl (rdP_iaddr_bx_ 5 rfl ar_112 rfl rfl rfl) rfl ?_
   refine ADB.mv 7 rfl (op_storo rfl rfl rfl rfl rfl sz_50 ?_)
   refine ADB.n ?_
   refine ADB.done (by kernel_rfl) ?_
   exact ⟨rfl, rfl⟩
  skip
  change AW _ _ _ _ _
  refine AW.region ?_
  refine AL.r (rd_arith_add rfl rfl rfl (rfl : _ = (6 : Int))) ?_
  refine AL.rm ?_
  refine AL.nil ?_
  change AW _ _ _ _ _
  refine AW.seq ?_
  refine AW.region ?_
  refine AL.r (rd_bin rfl rfl rfl (fun _ => rfl)) ?_
  refine AL.nil ?_
  change AW _ _ _ _ _
  refine AW.seq ?_
  refine AW.cond_f rfl ?_
  refine AW.exit ?_
  change AW _ _ _ _ _
  refine AW.seq ?_
  refine AW.region ?_
  refine AL.rm ?_
  refine AL.ra ?_
  refine AL.nil ?_
  change AW _ _ _ _ _
  refine AW.ret ?_
  repeat with_reducible first | refine thenA_ret ?_ | refine inBlockA_ret ?_
  with_reducible first | refine retO_ret ?_ | refine retO_normal ?_
  refine reso1P rfl (ResV.tmp rfl) (resO_bx (by decide) rfl) ?_
  exact ⟨rfl, _, ⟨_, _, _, _, _, _, rfl⟩, rfl⟩
end
def PoolP (p : PoolD) : OP := CluP (fun os => ∃ g, PoolAt g p os)
theorem poolAt_self (g g1 g2 g3 g4 g5 g6 : Nat) (p : PoolD) : PoolAt g p (poolT g g1 g2 g3 g4 g5 g6 p) := ⟨g1, g2, g3, g4, g5, g6, rfl⟩
theorem pool_obj {f : FuncId} {rest : List AV} {p p' : PoolD} {Y : AV} (h : ∀ g g1 g2 g3 g4 g5 g6, ACo Try.prog f (.bx 0 g 0 :: rest) (poolT g g1 g2 g3 g4 g5 g6 p) (fun y os' => y = Y ∧ PoolAt g p' os')) (G : Nat) (hr : rest.all clo1 = true := by rfl) (hY : clo2 Y = true := by rfl) :
    ACo Try.prog f (.bx 0 G 0 :: rest) [⟨G, .obj (PoolP p)⟩] (fun y os' => y = Y ∧ os' = [⟨G, .obj (PoolP p')⟩]) :=
  ACo.obj hr fun os hD => by
    obtain ⟨g, g1, g2, g3, g4, g5, g6, rfl⟩ := hD
    refine ⟨g, _, _, rfl, rfl, h g g1 g2 g3 g4 g5 g6, fun y os' ⟨hy, hd⟩ => ?_⟩
    subst hy
    have hd' := hd
    obtain ⟨a1, a2, a3, a4, a5, a6, rfl⟩ := hd
    exact ⟨fun os => ∃ g, PoolAt g p' os, _, hY, ⟨g, hd'⟩, rfl, rfl, rfl, rfl⟩
theorem pool_obj' {f : FuncId} {rest : List AV} {p : PoolD} {Y : AV} (h : ∀ g g1 g2 g3 g4 g5 g6, ACo Try.prog f (.bx 0 g 0 :: rest) (poolT g g1 g2 g3 g4 g5 g6 p) (fun y os' => y = Y ∧ os' = poolT g g1 g2 g3 g4 g5 g6 p)) (G : Nat) (hr : rest.all clo1 = true := by rfl) (hY : clo2 Y = true := by rfl) :
    ACo Try.prog f (.bx 0 G 0 :: rest) [⟨G, .obj (PoolP p)⟩] (fun y os' => y = Y ∧ os' = [⟨G, .obj (PoolP p)⟩]) :=
  pool_obj (fun g g1 g2 g3 g4 g5 g6 => (h g g1 g2 g3 g4 g5 g6).mono fun y os' ⟨a, b⟩ => ⟨a, b ▸ poolAt_self g g1 g2 g3 g4 g5 g6 p⟩) G hr hY
/-- A function that makes an object, and answers just that. -/
theorem ACo.newObj1 {P : Program} {f : FuncId} {args : List AV} {offs : List TK} {h : Nat} {R : AV → List TK → Prop} (hargs : args.all clo1 = true) (hoff : ∀ tk ∈ offs, tk.c = .off) {R0 : AV → List TK → Prop} (hC : ACo P f args offs R0)
    (hR : ∀ y os', R0 y os' → ∃ D' g c1, y = .bx 0 g 0 ∧ D' os' ∧ os'[0]? = some ⟨g, c1⟩ ∧ c1.isB = true ∧ R (.bx 0 (h + 1) 0) [⟨h + 1, .obj (CluP D')⟩]) : ACo P f args [⟨h, .off⟩] R := fun F ρ w vs hsz hs hr => by
  have hno : ∀ (ρ : Loc) k tk b, offs[k]? = some tk → ¬ foot ρ k tk.c b := fun ρ k tk b hk hf => by rw [hoff tk (List.mem_of_getElem? hk)] at hf; exact hf
  have hs1 : St F ρ offs ⟨w, ρ, offs⟩ w := ⟨Bel.refl ⟨w, ρ, offs⟩, hs.fresh, fun k g ty cs hk => (by have := hoff _ (List.mem_of_getElem? hk); cases this), fun k g el sz xs hk => (by have := hoff _ (List.mem_of_getElem? hk); cases this), fun k g p hk => (by have := hoff _ (List.mem_of_getElem? hk); cases this), fun k tk b hk hf => (hno ρ k tk b hk hf).elim, fun k tk k' tk' b hk hf => (hno ρ k tk b hk hf).elim, fun k tk0 h => ⟨tk0, h, .inl ⟨rfl, rfl⟩⟩⟩
  have hfree : ∀ b, Free F ρ [⟨h, .off⟩] b → Free F ρ offs b := fun b hb => ⟨hb.1, fun k tk hk hf => hno ρ k tk b hk hf⟩
  refine (hC F ρ w vs hsz hs1 (fun j v x hv hx => ?_)).mono fun e w' ⟨v, y, ρ2, os', he, hs2, hl, hcl', hok, hrep, hR0⟩ => ?_
  · have hc : clo1 x = true := by rw [List.all_eq_true] at hargs; exact hargs x (List.mem_of_getElem? hx)
    exact clo1_on hfree hc (hr j v x hv hx)
  · obtain ⟨D', g, c1, rfl, hD', h0', hB', hRR⟩ := hR y os' hR0
    obtain ⟨ρ3, e3, hs3, hf3⟩ := one_obj (G := h + 1) (W := ⟨w, ρ, [⟨h, .off⟩]⟩) (D := D') rfl (fun b ⟨k, tk, h1, h2⟩ => (hno ρ k tk b h1 h2).elim) hs2 hcl' hD' (fun c k tk0 hk => by
      cases k with
      | zero =>
        simp at hk
        subst hk
        exact ⟨_, rfl, .inr (.inl (Nat.lt_succ_self _))⟩
      | succ k => simp at hk)
    refine ⟨v, .bx 0 (h + 1) 0, ρ3, _, he, hs3, rfl, rfl, by simp [ok2, ok1, okC, liveA, TC.isB], ?_, hRR⟩
    rw [hrep.bx_invB h0' hB', ← e3]
    exact .ptr (tk := ⟨h + 1, .obj (CluP D')⟩) rfl rfl rfl
theorem op_new (h : Nat) : ACo Try.prog 26 [] [⟨h, .off⟩] (fun y os' => y = .bx 0 (h + 1) 0 ∧ os' = [⟨h + 1, .obj (PoolP newP)⟩]) :=
  ACo.newObj1 rfl (by intro tk h; simp at h; rw [h]) (pnew_c 0 0 0 0 0 0 0) fun y os' ⟨hy, hd⟩ => by
    have hd' := hd
    obtain ⟨a1, a2, a3, a4, a5, a6, rfl⟩ := hd
    exact ⟨fun os => ∃ g, PoolAt g newP os, _, _, hy, ⟨_, hd'⟩, rfl, rfl, rfl, rfl⟩
section
variable {p : PoolD} (hok : OkP p) (G : Nat)
include hok
theorem op_put (o : OpD) : ACo Try.prog 27 [.bx 0 G 0, o.av] [⟨G, .obj (PoolP p)⟩] (fun y os' => y = AI (putC p o) ∧ os' = [⟨G, .obj (PoolP (putP p o))⟩]) :=
  pool_obj (fun g g1 g2 g3 g4 g5 g6 => pput_c p g g1 g2 g3 g4 g5 g6 hok o) G
theorem op_len : ACo Try.prog 28 [.bx 0 G 0] [⟨G, .obj (PoolP p)⟩] (fun y os' => y = AI (totP p : Int) ∧ os' = [⟨G, .obj (PoolP p)⟩]) :=
  pool_obj' (fun g g1 g2 g3 g4 g5 g6 => plen_c p g g1 g2 g3 g4 g5 g6 (by have := hok.tot; unfold totP; omega)) G
theorem op_since (v : VecD) (most : Int) : ACo Try.prog 36 [.bx 0 G 0, vecA v, AI most] [⟨G, .obj (PoolP p)⟩] (fun y os' => y = .sl ((sinceL p v most).map OpD.cs) ∧ os' = [⟨G, .obj (PoolP p)⟩]) :=
  pool_obj' (fun g g1 g2 g3 g4 g5 g6 => psince_c p hok g g1 g2 g3 g4 g5 g6 v most) G
theorem op_ops : ACo Try.prog 29 [.bx 0 G 0] [⟨G, .obj (PoolP p)⟩] (fun y os' => y = .sl ((sinceL p zeroV 400).map OpD.cs) ∧ os' = [⟨G, .obj (PoolP p)⟩]) :=
  pool_obj' (fun g g1 g2 g3 g4 g5 g6 => pops_c p hok g g1 g2 g3 g4 g5 g6) G
omit hok in
theorem op_have : ACo Try.prog 32 [.bx 0 G 0] [⟨G, .obj (PoolP p)⟩] (fun y os' => y = haveP p ∧ os' = [⟨G, .obj (PoolP p)⟩]) :=
  pool_obj' (fun g g1 g2 g3 g4 g5 g6 => phave_c p g g1 g2 g3 g4 g5 g6) G
end
/-! What is put in keeps a pool as it can be. -/
theorem okP_new : OkP newP := ⟨by simp [newP], fun i _ j hj => by simp [newP] at hj⟩
theorem tag_of {o : OpD} (h : rightO o = true) : tagB o.id = true := by unfold rightO at h; simp only [Bool.and_eq_true] at h; exact h.1.1.1.1.1.1.1.1.1.1.2
theorem put_case {p : PoolD} {o : OpD} (h : putC p o = 0) : rightO o = true ∧ o.id.n = ((p (o.id.rep - 1).toNat).length : Int) + 1 ∧ totP p < 400 ∧ putP p o = updP p (o.id.rep - 1).toNat (p (o.id.rep - 1).toNat ++ [o]) := by
  have hp : putP p o = updP p (o.id.rep - 1).toNat (p (o.id.rep - 1).toNat ++ [o]) := by unfold putP; rw [if_pos h]
  unfold putC at h
  cases hr : rightO o with
  | false => rw [if_pos hr] at h; cases h
  | true =>
    rw [if_neg (by rw [hr]; decide)] at h
    split at h
    · split at h <;> cases h
    · split at h
      · split at h
        · cases h
        · exact ⟨rfl, by assumption, by omega, hp⟩
      · cases h
theorem push_eq {α : Type} {l m : List α} {q : Nat → α → Prop} (h : ∀ j (hj : j < l.length), q j l[j]) (e : m = l) : ∀ j (hj : j < m.length), q j m[j] := by subst e; exact h
theorem push_all {α : Type} {l : List α} {q : Nat → α → Prop} {o : α} (h : ∀ j (hj : j < l.length), q j l[j]) (ho : q l.length o) (m : List α) (e : m = l ++ [o]) : ∀ j (hj : j < m.length), q j m[j] := by
  subst e
  intro j hj
  by_cases e2 : j < l.length
  · rw [List.getElem_append_left e2]; exact h j e2
  · have e3 : j = l.length := (by simp at hj; omega)
    subst e3
    rw [List.getElem_append_right (Nat.le_refl _)]
    simpa using ho
theorem OkP.put {p : PoolD} (h : OkP p) (o : OpD) : OkP (putP p o) := by
  by_cases hc : putC p o = 0
  · obtain ⟨h1, h2, h3, h4⟩ := put_case hc
    have ht := (tagB_rep (tag_of h1)).1
    rw [h4]
    refine ⟨?_, fun i hi j hj => ?_⟩
    · unfold totP at h3
      rcases ht with e | e | e | e | e | e <;> simp [updP, e] <;> omega
    · have hr : ((o.id.rep - 1).toNat : Int) + 1 = o.id.rep := (by rcases ht with e | e | e | e | e | e <;> rw [e] <;> decide)
      generalize (o.id.rep - 1).toNat = r at hj h2 hr ⊢
      by_cases e : i = r
      · subst e
        exact push_all (l := p i) (q := fun j x => x.id = ⟨(i : Int) + 1, (j : Int) + 1⟩ ∧ rightO x = true) (h.all i hi) ⟨by rw [tagD_iff]; exact ⟨hr.symm, h2⟩, h1⟩ _ (by simp [updP]) j hj
      · have e2 : updP p r (p r ++ [o]) i = p i := by simp [updP, e]
        exact push_eq (q := fun j x => x.id = ⟨(i : Int) + 1, (j : Int) + 1⟩ ∧ rightO x = true) (h.all i hi) e2 j hj
  · rw [(put_no hc).2]; exact h
theorem lens_zero : lensP newP = zeroV := rfl
theorem tot_put (p : PoolD) (o : OpD) : totP (putP p o) = totP p + if putC p o = 0 then 1 else 0 := by
  by_cases hc : putC p o = 0
  · obtain ⟨h1, h2, h3, h4⟩ := put_case hc
    have ht := (tagB_rep (tag_of h1)).1
    rw [h4, if_pos hc]
    unfold totP
    rcases ht with e | e | e | e | e | e <;> simp [updP, e] <;> omega
  · rw [(put_no hc).2, if_neg hc]; rfl
end Go.Proofs.Ytfjnkhanndkpfaa
