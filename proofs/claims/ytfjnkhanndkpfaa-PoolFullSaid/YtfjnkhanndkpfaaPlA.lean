/- Pools as data, and their small functions, walked over abstract states. No conditions. -/
import Derived.Test.YtfjnkhanndkpfaaOpU
import Derived.Test.YtfjnkhanndkpfaaOwS
import Derived.Test.YtfjnkhanndkpfaaJa
namespace Go.Proofs.Ytfjnkhanndkpfaa
set_option linter.unusedSimpArgs false
set_option linter.unusedVariables false
set_option maxRecDepth 100000
set_option maxRecDepth 100000
open Go.RowKit

abbrev PoolD := Nat → List OpD
def poolT (g g1 g2 g3 g4 g5 g6 : Nat) (p : PoolD) : List TK := [⟨g, .box 114 [.ow 1 g1, .ow 2 g2, .ow 3 g3, .ow 4 g4, .ow 5 g5, .ow 6 g6]⟩,
  ⟨g1, owM true 47 15 ((p 0).map OpD.cs)⟩, ⟨g2, owM true 47 15 ((p 1).map OpD.cs)⟩, ⟨g3, owM true 47 15 ((p 2).map OpD.cs)⟩, ⟨g4, owM true 47 15 ((p 3).map OpD.cs)⟩, ⟨g5, owM true 47 15 ((p 4).map OpD.cs)⟩, ⟨g6, owM true 47 15 ((p 5).map OpD.cs)⟩]
section
variable {P : Program} {o : Oper} {t : List AV} {st : List TK} {ops : Array Oper} {l : List Oper} {fuel : Nat} {listed : Array Bool}
theorem calloP {xs : Array Operand} {Ts : Array TypeId} {K : AV → List TK → Prop} {f : FuncId} {ys : List AV} {os : List TK} {R : AV → List TK → Prop} (hC : ACo P f ys os R) (ks : List Nat) (h : ∀ y os', R y os' → K (ren2 ks y) (putT ks st ks os')) (ho : o.op = .call { callee := .value (.func f), args := xs, argTypes := Ts } := by rfl) (hok : callOk P f = true := by kernel_rfl) (hnd : ks.Nodup := by decide) (hsub : subT st ks (os.map (renT ks)) := by simp only [poolT, List.map_cons, List.map_nil, renT, renC_owM, renC_box, renC_own, renC_nown, renC_obj, renC_off, ren0, List.getD_cons_zero, List.getD_cons_succ]; repeat (first | exact trivial | refine ⟨rfl, ?_⟩)) (hargs : xs.toList.map (fun x => nzA (evA t x)) = ys.map (ren1 ks) := by rfl) (hoa : ys.all (ok1 os) = true := by simp only [poolT, cleanS, cle_owM, cle_own, cle_nown, cle_obj, cle_off, cle_box, okC, liveA, List.take_succ_cons, List.take_zero, List.all_cons, List.all_nil, List.getElem?_cons_zero, List.getElem?_cons_succ, isO_owM, isO_own, isO_nown, TC.isB, beq_self_eq_true, Bool.and_self, Bool.and_true, ok1, ok2, List.map_cons, List.map_nil]) (hcl : cleanS os = true := by simp only [poolT, cleanS, cle_owM, cle_own, cle_nown, cle_obj, cle_off, cle_box, okC, liveA, List.take_succ_cons, List.take_zero, List.all_cons, List.all_nil, List.getElem?_cons_zero, List.getElem?_cons_succ, isO_owM, isO_own, isO_nown, TC.isB, beq_self_eq_true, Bool.and_self, Bool.and_true, ok1, ok2, List.map_cons, List.map_nil]) : AOp P o t st K := op_callo hC ho hok ks hnd hsub hargs hoa hcl h
theorem centrP {K : AV → List TK → Prop} {f : FuncId} {us ys : List AV} {os : List TK} {R : AV → List TK → Prop} (hC : ACo P f ys os R) (hE : Ent P o t st f us) (ks : List Nat) (h : ∀ y os', R y os' → K (ren2 ks y) (putT ks st ks os')) (hnd : ks.Nodup := by decide) (hsub : subT st ks (os.map (renT ks)) := by simp only [poolT, List.map_cons, List.map_nil, renT, renC_owM, renC_box, renC_own, renC_nown, renC_obj, renC_off, ren0, List.getD_cons_zero, List.getD_cons_succ]; repeat (first | exact trivial | refine ⟨rfl, ?_⟩)) (hargs : us.map nzA = ys.map (ren1 ks) := by rfl) (hoa : ys.all (ok1 os) = true := by simp only [poolT, cleanS, cle_owM, cle_own, cle_nown, cle_obj, cle_off, cle_box, okC, liveA, List.take_succ_cons, List.take_zero, List.all_cons, List.all_nil, List.getElem?_cons_zero, List.getElem?_cons_succ, isO_owM, isO_own, isO_nown, TC.isB, beq_self_eq_true, Bool.and_self, Bool.and_true, ok1, ok2, List.map_cons, List.map_nil]) (hcl : cleanS os = true := by simp only [poolT, cleanS, cle_owM, cle_own, cle_nown, cle_obj, cle_off, cle_box, okC, liveA, List.take_succ_cons, List.take_zero, List.all_cons, List.all_nil, List.getElem?_cons_zero, List.getElem?_cons_succ, isO_owM, isO_own, isO_nown, TC.isB, beq_self_eq_true, Bool.and_self, Bool.and_true, ok1, ok2, List.map_cons, List.map_nil]) : AOp P o t st K := op_enter hC hE ks hnd hsub hargs hoa hcl h
theorem AL.noP {K : List AV → List TK → Prop} {t' : List AV} {st' : List TK} (h : AL P ops K l t' st') (ht : t = t' := by (try simp only [poolT, putA, evA, List.getD_cons_zero, List.getD_cons_succ, List.set_cons_zero, List.set_cons_succ, List.length_map, KR, splA, List.map_cons, List.map_nil, List.length_append, List.length_cons, List.length_nil, List.drop_zero, csS_len, csS_take, csS_drop, csS_app, byA_len, byA_take, byA_drop, byA_app, ← List.map_take, ← List.map_drop, ← List.map_append, List.take_succ_cons, List.take_zero, List.drop_succ_cons, List.cons_append, List.nil_append, Nat.zero_add, Nat.reduceAdd, Nat.reduceMul, Nat.add_zero, Nat.mul_one, putT, renT, renC_owM, renC_box, renC_own, renC_nown, renC_obj, renC_off, ren2, ren1, ren0, ok1, ok2]); (try rfl)) (hs : st = st' := by (try simp only [poolT, putA, evA, List.getD_cons_zero, List.getD_cons_succ, List.set_cons_zero, List.set_cons_succ, List.length_map, KR, splA, List.map_cons, List.map_nil, List.length_append, List.length_cons, List.length_nil, List.drop_zero, csS_len, csS_take, csS_drop, csS_app, byA_len, byA_take, byA_drop, byA_app, ← List.map_take, ← List.map_drop, ← List.map_append, List.take_succ_cons, List.take_zero, List.drop_succ_cons, List.cons_append, List.nil_append, Nat.zero_add, Nat.reduceAdd, Nat.reduceMul, Nat.add_zero, Nat.mul_one, putT, renT, renC_owM, renC_box, renC_own, renC_nown, renC_obj, renC_off, ren2, ren1, ren0, ok1, ok2]); (try rfl)) : AL P ops K l t st := by subst ht hs; exact h
theorem ADB.noP {K : List AV → List TK → Prop} {t' : List AV} {st' : List TK} (h : ADB P l K fuel listed t' st') (ht : t = t' := by (try simp only [poolT, putA, evA, List.getD_cons_zero, List.getD_cons_succ, List.set_cons_zero, List.set_cons_succ, List.length_map, KR, splA, List.map_cons, List.map_nil, List.length_append, List.length_cons, List.length_nil, List.drop_zero, csS_len, csS_take, csS_drop, csS_app, byA_len, byA_take, byA_drop, byA_app, ← List.map_take, ← List.map_drop, ← List.map_append, List.take_succ_cons, List.take_zero, List.drop_succ_cons, List.cons_append, List.nil_append, Nat.zero_add, Nat.reduceAdd, Nat.reduceMul, Nat.add_zero, Nat.mul_one, putT, renT, renC_owM, renC_box, renC_own, renC_nown, renC_obj, renC_off, ren2, ren1, ren0, ok1, ok2]); (try rfl)) (hs : st = st' := by (try simp only [poolT, putA, evA, List.getD_cons_zero, List.getD_cons_succ, List.set_cons_zero, List.set_cons_succ, List.length_map, KR, splA, List.map_cons, List.map_nil, List.length_append, List.length_cons, List.length_nil, List.drop_zero, csS_len, csS_take, csS_drop, csS_app, byA_len, byA_take, byA_drop, byA_app, ← List.map_take, ← List.map_drop, ← List.map_append, List.take_succ_cons, List.take_zero, List.drop_succ_cons, List.cons_append, List.nil_append, Nat.zero_add, Nat.reduceAdd, Nat.reduceMul, Nat.add_zero, Nat.mul_one, putT, renT, renC_owM, renC_box, renC_own, renC_nown, renC_obj, renC_off, ren2, ren1, ren0, ok1, ok2]); (try rfl)) : ADB P l K fuel listed t st := by subst ht hs; exact h
theorem reso0P {fn : Func} {n : Nat} {R : AV → List TK → Prop} (hr : fn.results = #[]) (h : R (.tu []) (st.take n)) (hn : n ≤ st.length := by exact Nat.le_of_ble_eq_true rfl) (hc : cleanS (st.take n) = true := by simp only [poolT, cleanS, cle_owM, cle_own, cle_nown, cle_obj, cle_off, cle_box, okC, liveA, List.take_succ_cons, List.take_zero, List.all_cons, List.all_nil, List.getElem?_cons_zero, List.getElem?_cons_succ, isO_owM, isO_own, isO_nown, TC.isB, beq_self_eq_true, Bool.and_self, Bool.and_true, ok1, ok2, List.map_cons, List.map_nil]) : ResO P fn n R t st := reso0 hr hn hc h
theorem reso1P {fn : Func} {n : Nat} {R : AV → List TK → Prop} {r1 : ResultVar} {z1 y1 : AV} (hr : fn.results = #[r1]) (h1 : ResV P t st r1 z1) (hz1 : resO1 n st z1 = some y1) (h : R (y1) (st.take n)) (hn : n ≤ st.length := by exact Nat.le_of_ble_eq_true rfl) (hc : cleanS (st.take n) = true := by simp only [poolT, cleanS, cle_owM, cle_own, cle_nown, cle_obj, cle_off, cle_box, okC, liveA, List.take_succ_cons, List.take_zero, List.all_cons, List.all_nil, List.getElem?_cons_zero, List.getElem?_cons_succ, isO_owM, isO_own, isO_nown, TC.isB, beq_self_eq_true, Bool.and_self, Bool.and_true, ok1, ok2, List.map_cons, List.map_nil]) (hok : ok2 (st.take n) (y1) = true := by simp only [poolT, cleanS, cle_owM, cle_own, cle_nown, cle_obj, cle_off, cle_box, okC, liveA, List.take_succ_cons, List.take_zero, List.all_cons, List.all_nil, List.getElem?_cons_zero, List.getElem?_cons_succ, isO_owM, isO_own, isO_nown, TC.isB, beq_self_eq_true, Bool.and_self, Bool.and_true, ok1, ok2, List.map_cons, List.map_nil]) : ResO P fn n R t st := reso1 hr hn hc h1 hz1 hok h
theorem reso2P {fn : Func} {n : Nat} {R : AV → List TK → Prop} {r1 r2 : ResultVar} {z1 y1 z2 y2 : AV} (hr : fn.results = #[r1, r2]) (h1 : ResV P t st r1 z1) (hz1 : resO1 n st z1 = some y1) (h2 : ResV P t st r2 z2) (hz2 : resO1 n st z2 = some y2) (h : R (.tu [y1, y2]) (st.take n)) (hn : n ≤ st.length := by exact Nat.le_of_ble_eq_true rfl) (hc : cleanS (st.take n) = true := by simp only [poolT, cleanS, cle_owM, cle_own, cle_nown, cle_obj, cle_off, cle_box, okC, liveA, List.take_succ_cons, List.take_zero, List.all_cons, List.all_nil, List.getElem?_cons_zero, List.getElem?_cons_succ, isO_owM, isO_own, isO_nown, TC.isB, beq_self_eq_true, Bool.and_self, Bool.and_true, ok1, ok2, List.map_cons, List.map_nil]) (hok : ok2 (st.take n) (.tu [y1, y2]) = true := by simp only [poolT, cleanS, cle_owM, cle_own, cle_nown, cle_obj, cle_off, cle_box, okC, liveA, List.take_succ_cons, List.take_zero, List.all_cons, List.all_nil, List.getElem?_cons_zero, List.getElem?_cons_succ, isO_owM, isO_own, isO_nown, TC.isB, beq_self_eq_true, Bool.and_self, Bool.and_true, ok1, ok2, List.map_cons, List.map_nil]) : ResO P fn n R t st := reso2 hr hn hc h1 hz1 h2 hz2 hok h
theorem reso3P {fn : Func} {n : Nat} {R : AV → List TK → Prop} {r1 r2 r3 : ResultVar} {z1 y1 z2 y2 z3 y3 : AV} (hr : fn.results = #[r1, r2, r3]) (h1 : ResV P t st r1 z1) (hz1 : resO1 n st z1 = some y1) (h2 : ResV P t st r2 z2) (hz2 : resO1 n st z2 = some y2) (h3 : ResV P t st r3 z3) (hz3 : resO1 n st z3 = some y3) (h : R (.tu [y1, y2, y3]) (st.take n)) (hn : n ≤ st.length := by exact Nat.le_of_ble_eq_true rfl) (hc : cleanS (st.take n) = true := by simp only [poolT, cleanS, cle_owM, cle_own, cle_nown, cle_obj, cle_off, cle_box, okC, liveA, List.take_succ_cons, List.take_zero, List.all_cons, List.all_nil, List.getElem?_cons_zero, List.getElem?_cons_succ, isO_owM, isO_own, isO_nown, TC.isB, beq_self_eq_true, Bool.and_self, Bool.and_true, ok1, ok2, List.map_cons, List.map_nil]) (hok : ok2 (st.take n) (.tu [y1, y2, y3]) = true := by simp only [poolT, cleanS, cle_owM, cle_own, cle_nown, cle_obj, cle_off, cle_box, okC, liveA, List.take_succ_cons, List.take_zero, List.all_cons, List.all_nil, List.getElem?_cons_zero, List.getElem?_cons_succ, isO_owM, isO_own, isO_nown, TC.isB, beq_self_eq_true, Bool.and_self, Bool.and_true, ok1, ok2, List.map_cons, List.map_nil]) : ResO P fn n R t st := reso3 hr hn hc h1 hz1 h2 hz2 h3 hz3 hok h
end
def PoolAt (g : Nat) (p : PoolD) (os : List TK) : Prop := ∃ g1 g2 g3 g4 g5 g6, os = poolT g g1 g2 g3 g4 g5 g6 p
def newP : PoolD := fun _ => []
def lensP (p : PoolD) : Nat → Int := fun i => ((p i).length : Int)
abbrev haveP (p : PoolD) : AV := .ag [AI (lensP p 0), AI (lensP p 1), AI (lensP p 2), AI (lensP p 3), AI (lensP p 4), AI (lensP p 5)]
/-- A pool as it can be: each replica's ops by rising numbers from 1 on. -/
structure OkP (p : PoolD) : Prop where
  tot : (p 0).length + (p 1).length + (p 2).length + (p 3).length + (p 4).length + (p 5).length ≤ 400
  all : ∀ i, i < 6 → ∀ j (hj : j < (p i).length), (p i)[j].id = ⟨(i : Int) + 1, (j : Int) + 1⟩ ∧ rightO (p i)[j] = true
def totP (p : PoolD) : Nat := (p 0).length + (p 1).length + (p 2).length + (p 3).length + (p 4).length + (p 5).length

theorem pnew_c (h0 h1 h2 h3 h4 h5 h6 : Nat) : ACo Try.prog 26 [] [⟨h0, .off⟩, ⟨h1, .off⟩, ⟨h2, .off⟩, ⟨h3, .off⟩, ⟨h4, .off⟩, ⟨h5, .off⟩, ⟨h6, .off⟩]
    (fun y os' => y = .bx 0 (h0 + 1) 0 ∧ PoolAt (h0 + 1) newP os') := by
  refine ACo.of' (st0 := [⟨h0, .off⟩, ⟨h1, .off⟩, ⟨h2, .off⟩, ⟨h3, .off⟩, ⟨h4, .off⟩, ⟨h5, .off⟩, ⟨h6, .off⟩, TK.mk 0 .off]) 3 1 Try.func26 rfl 7 ?_
  refine AW.seq ?_
  refine AW.region ?_
  refine AL.ra ?_
  refine AL.nil ?_
  change AW _ _ _ _ _
  refine AW.seq ?_
  refine AW.region ?_
  refine AL.r (rd_build rfl pl_114 ze_114 rfl rfl) ?_
  refine AL.op rfl (AOpB.op (op_box 0 rfl rfl rfl rfl rfl ?_))
  refine AL.no ?_
  refine AL.nilbx 0 0 1 47 15 rfl rfl rfl (by decide) ?_
  refine AL.no ?_
  refine AL.nilbx 0 1 2 47 15 rfl rfl rfl (by decide) ?_
  refine AL.no ?_
  refine AL.nilbx 0 2 3 47 15 rfl rfl rfl (by decide) ?_
  refine AL.no ?_
  refine AL.nilbx 0 3 4 47 15 rfl rfl rfl (by decide) ?_
  refine AL.no ?_
  refine AL.nilbx 0 4 5 47 15 rfl rfl rfl (by decide) ?_
  refine AL.no ?_
  refine AL.nilbx 0 5 6 47 15 rfl rfl rfl (by decide) ?_
  refine AL.no ?_
  refine AL.ra ?_
  refine AL.nil ?_
  change AW _ _ _ _ _
  refine AW.ret ?_
  repeat with_reducible first | refine thenA_ret ?_ | refine inBlockA_ret ?_
  with_reducible first | refine retO_ret ?_ | refine retO_normal ?_
  refine reso1S rfl (ResV.tmp rfl) (resO_bx (by decide) rfl) ?_
  exact ⟨rfl, _, _, _, _, _, _, rfl⟩
section
variable (p : PoolD) (g g1 g2 g3 g4 g5 g6 : Nat)
theorem phave_c : ACo Try.prog 32 [.bx 0 g 0] (poolT g g1 g2 g3 g4 g5 g6 p) (fun y os' => y = haveP p ∧ os' = poolT g g1 g2 g3 g4 g5 g6 p) := by
  refine ACo.of' (st0 := [⟨g, .box 114 [.ow 1 g1, .ow 2 g2, .ow 3 g3, .ow 4 g4, .ow 5 g5, .ow 6 g6]⟩, ⟨g1, owM true 47 15 ((p 0).map OpD.cs)⟩, ⟨g2, owM true 47 15 ((p 1).map OpD.cs)⟩, ⟨g3, owM true 47 15 ((p 2).map OpD.cs)⟩, ⟨g4, owM true 47 15 ((p 3).map OpD.cs)⟩, ⟨g5, owM true 47 15 ((p 4).map OpD.cs)⟩, ⟨g6, owM true 47 15 ((p 5).map OpD.cs)⟩, TK.mk 0 .off, TK.mk 0 .off]) 22 2 Try.func32 rfl 7 ?_
  refine AW.seq ?_
  refine AW.region ?_
  refine AL.op rfl (AOpB.op (op_alloc 7 rfl ze_58 rfl ?_))
  refine AL.no ?_
  refine AL.nil ?_
  change AW _ _ _ _ _
  refine AW.seq ?_
  refine AW.region ?_
  refine AL.op rfl (AOpB.op (op_alloc 8 rfl ze_58 rfl ?_))
  refine AL.no ?_
  refine AL.nil ?_
  change AW _ _ _ _ _
  refine AW.seq ?_
  refine AW.seq ?_
  refine AW.region ?_
  refine AL.rm ?_
  refine AL.r (rd_peq_bx rfl pt_41 rfl rfl rfl) ?_
  refine AL.nil ?_
  change AW _ _ _ _ _
  refine AW.cond_f rfl ?_
  refine AW.skip ?_
  change AW _ _ _ _ _
  refine AW.seq ?_
  refine AW.seq ?_
  refine AW.region ?_
  refine AL.rm ?_
  refine AL.r (rd_nilc_bx rfl rfl rfl) ?_
  refine AL.r (rd_faddr_bx rfl fo_114_0 rfl rfl ⟨_, _, rfl⟩) ?_
  refine AL.r (rd_loadN_bx rfl ag_112 rfl rfl (Nat.le_of_ble_eq_true rfl) rfl) ?_
  refine AL.rm ?_
  refine AL.nil ?_
  change AW _ _ _ _ _
  refine AW.block ?_
  refine AW.unroll 7 ?_
  change AW _ _ _ _ _
  refine AW.seq ?_
  refine AW.region ?_
  refine AL.r (rd_bin rfl rfl rfl (fun _ => rfl)) ?_
  refine AL.nil ?_
  change AW _ _ _ _ _
  refine AW.seq ?_
  refine AW.cond_t rfl ?_
  refine AW.skip ?_
  change AW _ _ _ _ _
  refine AW.seq ?_
  refine AW.block ?_
  refine AW.seq ?_
  refine AW.region ?_
  refine AL.rm ?_
  refine AL.r (rd_index_ag (i := 0) rfl ar_112 ag_50 rfl rfl (by first | rfl | omega) (by decide) rfl) ?_
  refine AL.ra ?_
  refine AL.ra ?_
  refine AL.nil ?_
  change AW _ _ _ _ _
  refine AW.region ?_
  refine AL.rm ?_
  refine AL.rm ?_
  refine AL.r (rd_len_owM rfl el_50 rfl rfl) ?_
  refine AL.r (rd_iaddr_bx_ 0 rfl ar_58 rfl rfl rfl) ?_
  refine AL.op rfl (op_store_ rfl rfl rfl rfl rfl sz_3 ?_)
  refine AL.no ?_
  refine AL.nil ?_
  change AW _ _ _ _ _
  refine AW.region ?_
  refine AL.r (rd_arith_add rfl rfl rfl (rfl : _ = (1 : Int))) ?_
  refine AL.rm ?_
  refine AL.nil ?_
  change AW _ _ _ _ _
  refine AW.seq ?_
  refine AW.region ?_
  refine AL.r (rd_bin rfl rfl rfl (fun _ => rfl)) ?_
  refine AL.nil ?_
  change AW _ _ _ _ _
  refine AW.seq ?_
  refine AW.cond_t rfl ?_
  refine AW.skip ?_
  change AW _ _ _ _ _
  refine AW.seq ?_
  refine AW.block ?_
  refine AW.seq ?_
  refine AW.region ?_
  refine AL.rm ?_
  refine AL.r (rd_index_ag (i := 1) rfl ar_112 ag_50 rfl rfl (by first | rfl | omega) (by decide) rfl) ?_
  refine AL.ra ?_
  refine AL.ra ?_
  refine AL.nil ?_
  change AW _ _ _ _ _
  refine AW.region ?_
  refine AL.rm ?_
  refine AL.rm ?_
  refine AL.r (rd_len_owM rfl el_50 rfl rfl) ?_
  refine AL.r (rd_iaddr_bx_ 1 rfl ar_58 rfl rfl rfl) ?_
  refine AL.op rfl (op_store_ rfl rfl rfl rfl rfl sz_3 ?_)
  refine AL.no ?_
  refine AL.nil ?_
  change AW _ _ _ _ _
  refine AW.region ?_
  refine AL.r (rd_arith_add rfl rfl rfl (rfl : _ = (2 : Int))) ?_
  refine AL.rm ?_
  refine AL.nil ?_
  change AW _ _ _ _ _
  refine AW.seq ?_
  refine AW.region ?_
  refine AL.r (rd_bin rfl rfl rfl (fun _ => rfl)) ?_
  refine AL.nil ?_
  change AW _ _ _ _ _
  refine AW.seq ?_
  refine AW.cond_t rfl ?_
  refine AW.skip ?_
  change AW _ _ _ _ _
  refine AW.seq ?_
  refine AW.block ?_
  refine AW.seq ?_
  refine AW.region ?_
  refine AL.rm ?_
  refine AL.r (rd_index_ag (i := 2) rfl ar_112 ag_50 rfl rfl (by first | rfl | omega) (by decide) rfl) ?_
  refine AL.ra ?_
  refine AL.ra ?_
  refine AL.nil ?_
  change AW _ _ _ _ _
  refine AW.region ?_
  refine AL.rm ?_
  refine AL.rm ?_
  refine AL.r (rd_len_owM rfl el_50 rfl rfl) ?_
  refine AL.r (rd_iaddr_bx_ 2 rfl ar_58 rfl rfl rfl) ?_
  refine AL.op rfl (op_store_ rfl rfl rfl rfl rfl sz_3 ?_)
  refine AL.no ?_
  refine AL.nil ?_
  change AW _ _ _ _ _
  refine AW.region ?_
  refine AL.r (rd_arith_add rfl rfl rfl (rfl : _ = (3 : Int))) ?_
  refine AL.rm ?_
  refine AL.nil ?_
  change AW _ _ _ _ _
  refine AW.seq ?_
  refine AW.region ?_
  refine AL.r (rd_bin rfl rfl rfl (fun _ => rfl)) ?_
  refine AL.nil ?_
  change AW _ _ _ _ _
  refine AW.seq ?_
  refine AW.cond_t rfl ?_
  refine AW.skip ?_
  change AW _ _ _ _ _
  refine AW.seq ?_
  refine AW.block ?_
  refine AW.seq ?_
  refine AW.region ?_
  refine AL.rm ?_
  refine AL.r (rd_index_ag (i := 3) rfl ar_112 ag_50 rfl rfl (by first | rfl | omega) (by decide) rfl) ?_
  refine AL.ra ?_
  refine AL.ra ?_
  refine AL.nil ?_
  change AW _ _ _ _ _
  refine AW.region ?_
  refine AL.rm ?_
  refine AL.rm ?_
  refine AL.r (rd_len_owM rfl el_50 rfl rfl) ?_
  refine AL.r (rd_iaddr_bx_ 3 rfl ar_58 rfl rfl rfl) ?_
  refine AL.op rfl (op_store_ rfl rfl rfl rfl rfl sz_3 ?_)
  refine AL.no ?_
  refine AL.nil ?_
  change AW _ _ _ _ _
  refine AW.region ?_
  refine AL.r (rd_arith_add rfl rfl rfl (rfl : _ = (4 : Int))) ?_
  refine AL.rm ?_
  refine AL.nil ?_
  change AW _ _ _ _ _
  refine AW.seq ?_
  refine AW.region ?_
  refine AL.r (rd_bin rfl rfl rfl (fun _ => rfl)) ?_
  refine AL.nil ?_
  change AW _ _ _ _ _
  refine AW.seq ?_
  refine AW.cond_t rfl ?_
  refine AW.skip ?_
  change AW _ _ _ _ _
  refine AW.seq ?_
  refine AW.block ?_
  refine AW.seq ?_
  refine AW.region ?_
  refine AL.rm ?_
  refine AL.r (rd_index_ag (i := 4) rfl ar_112 ag_50 rfl rfl (by first | rfl | omega) (by decide) rfl) ?_
  refine AL.ra ?_
  refine AL.ra ?_
  refine AL.nil ?_
  change AW _ _ _ _ _
  refine AW.region ?_
  refine AL.rm ?_
  refine AL.rm ?_
  refine AL.r (rd_len_owM rfl el_50 rfl rfl) ?_
  refine AL.r (rd_iaddr_bx_ 4 rfl ar_58 rfl rfl rfl) ?_
  refine AL.op rfl (op_store_ rfl rfl rfl rfl rfl sz_3 ?_)
  refine AL.no ?_
  refine AL.nil ?_
  change AW _ _ _ _ _
  refine AW.region ?_
  refine AL.r (rd_arith_add rfl rfl rfl (rfl : _ = (5 : Int))) ?_
  refine AL.rm ?_
  refine AL.nil ?_
  change AW _ _ _ _ _
  refine AW.seq ?_
  refine AW.region ?_
  refine AL.r (rd_bin rfl rfl rfl (fun _ => rfl)) ?_
  refine AL.nil ?_
  change AW _ _ _ _ _
  refine AW.seq ?_
  refine AW.cond_t rfl ?_
  refine AW.skip ?_
  change AW _ _ _ _ _
  refine AW.seq ?_
  refine AW.block ?_
  refine AW.seq ?_
  refine AW.region ?_
  refine AL.rm ?_
  refine AL.r (rd_index_ag (i := 5) rfl ar_112 ag_50 rfl rfl (by first | rfl | omega) (by decide) rfl) ?_
  refine AL.ra ?_
  refine AL.ra ?_
  refine AL.nil ?_
  change AW _ _ _ _ _
  refine AW.region ?_
  refine AL.rm ?_
  refine AL.rm ?_
  refine AL.r (rd_len_owM rfl el_50 rfl rfl) ?_
  refine AL.r (rd_iaddr_bx_ 5 rfl ar_58 rfl rfl rfl) ?_
  refine AL.op rfl (op_store_ rfl rfl rfl rfl rfl sz_3 ?_)
  refine AL.no ?_
  refine AL.nil ?_
  change AW _ _ _ _ _
  refine AW.region ?_
  refine AL.r (rd_arith_add rfl rfl rfl (rfl : _ = (6 : Int))) ?_
  refine AL.rm ?_
  refine AL.nil ?_
  change AW _ _ _ _ _
  refine AW.seq ?_
  refine AW.region ?_
  refine AL.r (rd_bin rfl rfl rfl (fun _ => rfl)) ?_
  refine AL.nil ?_
  change AW _ _ _ _ _
  refine AW.seq ?_
  refine AW.cond_f rfl ?_
  refine AW.exit ?_
  change AW _ _ _ _ _
  refine AW.seq ?_
  refine AW.region ?_
  refine AL.r (rd_loadN_bx rfl ag_58 rfl rfl (Nat.le_of_ble_eq_true rfl) rfl) ?_
  refine AL.op rfl (op_store_ rfl rfl rfl rfl rfl sz_58 ?_)
  refine AL.no ?_
  refine AL.nil ?_
  change AW _ _ _ _ _
  refine AW.ret ?_
  repeat with_reducible first | refine thenA_ret ?_ | refine inBlockA_ret ?_
  with_reducible first | refine retO_ret ?_ | refine retO_normal ?_
  refine reso1S rfl (ResV.cells rfl rfl ag_58 (Nat.le_of_ble_eq_true rfl) rfl) rfl ?_
  exact ⟨rfl, rfl⟩
theorem plen_c (hp : totP p ≤ 1000000) : ACo Try.prog 28 [.bx 0 g 0] (poolT g g1 g2 g3 g4 g5 g6 p) (fun y os' => y = AI (totP p : Int) ∧ os' = poolT g g1 g2 g3 g4 g5 g6 p) := by
  unfold totP at hp
  refine ACo.of' (st0 := [⟨g, .box 114 [.ow 1 g1, .ow 2 g2, .ow 3 g3, .ow 4 g4, .ow 5 g5, .ow 6 g6]⟩, ⟨g1, owM true 47 15 ((p 0).map OpD.cs)⟩, ⟨g2, owM true 47 15 ((p 1).map OpD.cs)⟩, ⟨g3, owM true 47 15 ((p 2).map OpD.cs)⟩, ⟨g4, owM true 47 15 ((p 3).map OpD.cs)⟩, ⟨g5, owM true 47 15 ((p 4).map OpD.cs)⟩, ⟨g6, owM true 47 15 ((p 5).map OpD.cs)⟩]) 15 0 Try.func28 rfl 7 ?_
  refine AW.seq ?_
  refine AW.region ?_
  refine AL.ra ?_
  refine AL.nil ?_
  change AW _ _ _ _ _
  refine AW.seq ?_
  refine AW.region ?_
  refine AL.ra ?_
  refine AL.nil ?_
  change AW _ _ _ _ _
  refine AW.seq ?_
  refine AW.seq ?_
  refine AW.region ?_
  refine AL.rm ?_
  refine AL.op rfl (calloP (phave_c p g g1 g2 g3 g4 g5 g6) [0, 1, 2, 3, 4, 5, 6] ?_)
  rintro y os' ⟨rfl, rfl⟩
  refine AL.noP ?_
  refine AL.rm ?_
  refine AL.nil ?_
  change AW _ _ _ _ _
  refine AW.block ?_
  refine AW.unroll 7 ?_
  change AW _ _ _ _ _
  refine AW.seq ?_
  refine AW.region ?_
  refine AL.r (rd_bin rfl rfl rfl (fun _ => rfl)) ?_
  refine AL.nil ?_
  change AW _ _ _ _ _
  refine AW.seq ?_
  refine AW.cond_t rfl ?_
  refine AW.skip ?_
  change AW _ _ _ _ _
  refine AW.seq ?_
  refine AW.block ?_
  refine AW.seq ?_
  refine AW.region ?_
  refine AL.r (rd_index_ag (i := 0) rfl ar_58 ag_3 rfl rfl (by first | rfl | omega) (by decide) rfl) ?_
  refine AL.ra ?_
  refine AL.nil ?_
  change AW _ _ _ _ _
  refine AW.region ?_
  refine AL.rm ?_
  refine AL.rm ?_
  refine AL.r (rd_arith_add rfl rfl rfl (IntWalk.i64_in _ (by simp only [lensP]; omega))) ?_
  refine AL.ra ?_
  refine AL.nil ?_
  change AW _ _ _ _ _
  refine AW.region ?_
  refine AL.r (rd_arith_add rfl rfl rfl (rfl : _ = (1 : Int))) ?_
  refine AL.rm ?_
  refine AL.nil ?_
  change AW _ _ _ _ _
  refine AW.seq ?_
  refine AW.region ?_
  refine AL.r (rd_bin rfl rfl rfl (fun _ => rfl)) ?_
  refine AL.nil ?_
  change AW _ _ _ _ _
  refine AW.seq ?_
  refine AW.cond_t rfl ?_
  refine AW.skip ?_
  change AW _ _ _ _ _
  refine AW.seq ?_
  refine AW.block ?_
  refine AW.seq ?_
  refine AW.region ?_
  refine AL.r (rd_index_ag (i := 1) rfl ar_58 ag_3 rfl rfl (by first | rfl | omega) (by decide) rfl) ?_
  refine AL.ra ?_
  refine AL.nil ?_
  change AW _ _ _ _ _
  refine AW.region ?_
  refine AL.rm ?_
  refine AL.rm ?_
  refine AL.r (rd_arith_add rfl rfl rfl (IntWalk.i64_in _ (by simp only [lensP]; omega))) ?_
  refine AL.ra ?_
  refine AL.nil ?_
  change AW _ _ _ _ _
  refine AW.region ?_
  refine AL.r (rd_arith_add rfl rfl rfl (rfl : _ = (2 : Int))) ?_
  refine AL.rm ?_
  refine AL.nil ?_
  change AW _ _ _ _ _
  refine AW.seq ?_
  refine AW.region ?_
  refine AL.r (rd_bin rfl rfl rfl (fun _ => rfl)) ?_
  refine AL.nil ?_
  change AW _ _ _ _ _
  refine AW.seq ?_
  refine AW.cond_t rfl ?_
  refine AW.skip ?_
  change AW _ _ _ _ _
  refine AW.seq ?_
  refine AW.block ?_
  refine AW.seq ?_
  refine AW.region ?_
  refine AL.r (rd_index_ag (i := 2) rfl ar_58 ag_3 rfl rfl (by first | rfl | omega) (by decide) rfl) ?_
  refine AL.ra ?_
  refine AL.nil ?_
  change AW _ _ _ _ _
  refine AW.region ?_
  refine AL.rm ?_
  refine AL.rm ?_
  refine AL.r (rd_arith_add rfl rfl rfl (IntWalk.i64_in _ (by simp only [lensP]; omega))) ?_
  refine AL.ra ?_
  refine AL.nil ?_
  change AW _ _ _ _ _
  refine AW.region ?_
  refine AL.r (rd_arith_add rfl rfl rfl (rfl : _ = (3 : Int))) ?_
  refine AL.rm ?_
  refine AL.nil ?_
  change AW _ _ _ _ _
  refine AW.seq ?_
  refine AW.region ?_
  refine AL.r (rd_bin rfl rfl rfl (fun _ => rfl)) ?_
  refine AL.nil ?_
  change AW _ _ _ _ _
  refine AW.seq ?_
  refine AW.cond_t rfl ?_
  refine AW.skip ?_
  change AW _ _ _ _ _
  refine AW.seq ?_
  refine AW.block ?_
  refine AW.seq ?_
  refine AW.region ?_
  refine AL.r (rd_index_ag (i := 3) rfl ar_58 ag_3 rfl rfl (by first | rfl | omega) (by decide) rfl) ?_
  refine AL.ra ?_
  refine AL.nil ?_
  change AW _ _ _ _ _
  refine AW.region ?_
  refine AL.rm ?_
  refine AL.rm ?_
  refine AL.r (rd_arith_add rfl rfl rfl (IntWalk.i64_in _ (by simp only [lensP]; omega))) ?_
  refine AL.ra ?_
  refine AL.nil ?_
  change AW _ _ _ _ _
  refine AW.region ?_
  refine AL.r (rd_arith_add rfl rfl rfl (rfl : _ = (4 : Int))) ?_
  refine AL.rm ?_
  refine AL.nil ?_
  change AW _ _ _ _ _
  refine AW.seq ?_
  refine AW.region ?_
  refine AL.r (rd_bin rfl rfl rfl (fun _ => rfl)) ?_
  refine AL.nil ?_
  change AW _ _ _ _ _
  refine AW.seq ?_
  refine AW.cond_t rfl ?_
  refine AW.skip ?_
  change AW _ _ _ _ _
  refine AW.seq ?_
  refine AW.block ?_
  refine AW.seq ?_
  refine AW.region ?_
  refine AL.r (rd_index_ag (i := 4) rfl ar_58 ag_3 rfl rfl (by first | rfl | omega) (by decide) rfl) ?_
  refine AL.ra ?_
  refine AL.nil ?_
  change AW _ _ _ _ _
  refine AW.region ?_
  refine AL.rm ?_
  refine AL.rm ?_
  refine AL.r (rd_arith_add rfl rfl rfl (IntWalk.i64_in _ (by simp only [lensP]; omega))) ?_
  refine AL.ra ?_
  refine AL.nil ?_
  change AW _ _ _ _ _
  refine AW.region ?_
  refine AL.r (rd_arith_add rfl rfl rfl (rfl : _ = (5 : Int))) ?_
  refine AL.rm ?_
  refine AL.nil ?_
  change AW _ _ _ _ _
  refine AW.seq ?_
  refine AW.region ?_
  refine AL.r (rd_bin rfl rfl rfl (fun _ => rfl)) ?_
  refine AL.nil ?_
  change AW _ _ _ _ _
  refine AW.seq ?_
  refine AW.cond_t rfl ?_
  refine AW.skip ?_
  change AW _ _ _ _ _
  refine AW.seq ?_
  refine AW.block ?_
  refine AW.seq ?_
  refine AW.region ?_
  refine AL.r (rd_index_ag (i := 5) rfl ar_58 ag_3 rfl rfl (by first | rfl | omega) (by decide) rfl) ?_
  refine AL.ra ?_
  refine AL.nil ?_
  change AW _ _ _ _ _
  refine AW.region ?_
  refine AL.rm ?_
  refine AL.rm ?_
  refine AL.r (rd_arith_add rfl rfl rfl (IntWalk.i64_in _ (by simp only [lensP]; omega))) ?_
  refine AL.ra ?_
  refine AL.nil ?_
  change AW _ _ _ _ _
  refine AW.region ?_
  refine AL.r (rd_arith_add rfl rfl rfl (rfl : _ = (6 : Int))) ?_
  refine AL.rm ?_
  refine AL.nil ?_
  change AW _ _ _ _ _
  refine AW.seq ?_
  refine AW.region ?_
  refine AL.r (rd_bin rfl rfl rfl (fun _ => rfl)) ?_
  refine AL.nil ?_
  change AW _ _ _ _ _
  refine AW.seq ?_
  refine AW.cond_f rfl ?_
  refine AW.exit ?_
  change AW _ _ _ _ _
  refine AW.seq ?_
  refine AW.region ?_
  refine AL.rm ?_
  refine AL.ra ?_
  refine AL.nil ?_
  change AW _ _ _ _ _
  refine AW.ret ?_
  repeat with_reducible first | refine thenA_ret ?_ | refine inBlockA_ret ?_
  with_reducible first | refine retO_ret ?_ | refine retO_normal ?_
  refine reso1P rfl (ResV.tmp rfl) rfl ?_
  exact ⟨congrArg AI (by unfold totP lensP; omega), rfl⟩
end
theorem oown_c (o : OpD) (h : o.drops.length ≤ 1000000) : AC Try.prog 81 [o.av] (fun r => r = .s (.ag [AI o.id.rep, AI o.id.n, AI o.schema.rep, AI o.schema.n, AI o.time, AS o.cart, AI o.kind, AS o.item, AI o.at_.scope, AS o.at_.group, AS o.at_.name, AI o.delta, AB o.has, AS o.text, .sl (o.drops.map TagD.cs)])) := by
  change AC _ _ [.ag [AI o.id.rep, AI o.id.n, AI o.schema.rep, AI o.schema.n, AI o.time, AS o.cart, AI o.kind, AS o.item, AI o.at_.scope, AS o.at_.group, AS o.at_.name, AI o.delta, AB o.has, AS o.text, .sl (o.drops.map TagD.cs)]] _
  refine AC.of' 7 3 Try.func81 rfl ?_
  change AW _ _ _ _ [TK.mk 0 .off, TK.mk 0 .off, TK.mk 0 .off]
  refine AW.seq ?_
  refine AW.region ?_
  refine AL.op rfl (AOpB.op (op_box 0 rfl rfl rfl rfl rfl ?_))
  refine AL.n ?_
  refine AL.op rfl (AOpB.op (op_alloc 1 rfl ze_47 rfl ?_))
  refine AL.n ?_
  refine AL.nil ?_
  change AW _ _ _ _ _
  refine AW.seq ?_
  refine AW.region ?_
  refine AL.r (rd_faddr_bx rfl fo_47_10 rfl rfl ⟨_, _, rfl⟩) ?_
  refine AL.r (rd_load_bx rfl ag_45 rfl rfl rfl) ?_
  refine AL.op rfl (AOpB.op (op_append_s rfl ap_45 rfl (src_s rfl) (by first | omega | (simp; omega) | simp) (by first | omega | (simp; omega) | simp) ?_))
  refine AL.n ?_
  refine AL.r (rd_faddr_bx rfl fo_47_10 rfl rfl ⟨_, _, rfl⟩) ?_
  refine AL.op rfl (op_store_ rfl rfl rfl rfl rfl sz_45 ?_)
  refine AL.b ?_
  refine AL.nil ?_
  change AW _ _ _ _ _
  refine AW.seq ?_
  refine AW.region ?_
  refine AL.r (rd_loadN_bx rfl ag_47 rfl rfl (Nat.le_of_ble_eq_true rfl) rfl) ?_
  refine AL.op rfl (op_store_ rfl rfl rfl rfl rfl sz_47 ?_)
  refine AL.b ?_
  refine AL.nil ?_
  change AW _ _ _ _ _
  refine AW.ret ?_
  change ResA _ _ _ _ _
  refine res1 rfl (ResV.cells rfl rfl ag_47 (Nat.le_of_ble_eq_true rfl) rfl) rfl ?_
  rfl
end Go.Proofs.Ytfjnkhanndkpfaa
