/- The disk as data, and its small functions, walked over abstract states. (Several texts in one.) -/
import Derived.Test.YtgjpeldgjpgbcaaTy
import Derived.Test.YtgjpeldgjpgbcaaMb
/- The disk as data, and its small functions, walked over abstract states. -/
namespace Go.Proofs.Ytgjpeldgjpgbcaa
set_option linter.unusedSimpArgs false
set_option linter.unusedVariables false
set_option maxRecDepth 100000
open Go.RowKit

structure DeedD where
  file : Nat
  cut : Bool
  size : Nat
  bytes : List UInt8
def DeedD.cs (x : DeedD) : List AV := [.sc (.int .i64 (x.file : Int)), .sc (.bool x.cut), .sc (.int .i64 (x.size : Int)), .sl (byA x.bytes)]
structure DiskD where
  room : Int
  n : Nat → List UInt8
  nf : Nat → Bool
  l : Nat → List UInt8
  lf : Nat → Bool
  q : List DeedD
  waits : Int
  done : Int
  fused : Bool
  fuse : Int
  dark : Bool
def diskT (g g1 g2 g3 g4 g5 g6 g7 g8 g9 : Nat) (d : DiskD) : List TK := [⟨g, .box 99 [.sc (.int .i64 d.room), .ow 1 g1, .ow 2 g2, .ow 3 g3, .ow 4 g4, .ow 5 g5, .ow 6 g6, .ow 7 g7, .ow 8 g8, .ow 9 g9, .sc (.int .i64 d.waits), .sc (.int .i64 d.done), .sc (.bool d.fused), .sc (.int .i64 d.fuse), .sc (.bool d.dark)]⟩,
  ⟨g1, owM (d.nf 0) 5 1 (byA (d.n 0))⟩, ⟨g2, owM (d.nf 1) 5 1 (byA (d.n 1))⟩, ⟨g3, owM (d.nf 2) 5 1 (byA (d.n 2))⟩, ⟨g4, owM (d.nf 3) 5 1 (byA (d.n 3))⟩,
  ⟨g5, owM (d.lf 0) 5 1 (byA (d.l 0))⟩, ⟨g6, owM (d.lf 1) 5 1 (byA (d.l 1))⟩, ⟨g7, owM (d.lf 2) 5 1 (byA (d.l 2))⟩, ⟨g8, owM (d.lf 3) 5 1 (byA (d.l 3))⟩,
  ⟨g9, owM true 102 4 (d.q.map DeedD.cs)⟩]
section
variable {P : Program} {o : Oper} {t : List AV} {st : List TK} {ops : Array Oper} {l : List Oper} {fuel : Nat} {listed : Array Bool}
theorem calloD {xs : Array Operand} {Ts : Array TypeId} {K : AV → List TK → Prop} {f : FuncId} {ys : List AV} {os : List TK} {R : AV → List TK → Prop} (hC : ACo P f ys os R) (ks : List Nat) (h : ∀ y os', R y os' → K (ren2 ks y) (putT ks st ks os')) (ho : o.op = .call { callee := .value (.func f), args := xs, argTypes := Ts } := by rfl) (hok : callOk P f = true := by kernel_rfl) (hnd : ks.Nodup := by decide) (hsub : subT st ks (os.map (renT ks)) := by simp only [diskT, List.map_cons, List.map_nil, renT, renC_owM, renC_box, renC_own, renC_nown, renC_obj, renC_off, ren0, List.getD_cons_zero, List.getD_cons_succ]; repeat (first | exact trivial | refine ⟨rfl, ?_⟩)) (hargs : xs.toList.map (fun x => nzA (evA t x)) = ys.map (ren1 ks) := by rfl) (hoa : ys.all (ok1 os) = true := by simp only [diskT, cleanS, cle_owM, cle_own, cle_nown, cle_obj, cle_off, cle_box, okC, liveA, List.take_succ_cons, List.take_zero, List.all_cons, List.all_nil, List.getElem?_cons_zero, List.getElem?_cons_succ, isO_owM, isO_own, isO_nown, TC.isB, beq_self_eq_true, Bool.and_self, Bool.and_true, ok1, ok2, List.map_cons, List.map_nil]) (hcl : cleanS os = true := by simp only [diskT, cleanS, cle_owM, cle_own, cle_nown, cle_obj, cle_off, cle_box, okC, liveA, List.take_succ_cons, List.take_zero, List.all_cons, List.all_nil, List.getElem?_cons_zero, List.getElem?_cons_succ, isO_owM, isO_own, isO_nown, TC.isB, beq_self_eq_true, Bool.and_self, Bool.and_true, ok1, ok2, List.map_cons, List.map_nil]) : AOp P o t st K := op_callo hC ho hok ks hnd hsub hargs hoa hcl h
theorem centrD {K : AV → List TK → Prop} {f : FuncId} {us ys : List AV} {os : List TK} {R : AV → List TK → Prop} (hC : ACo P f ys os R) (hE : Ent P o t st f us) (ks : List Nat) (h : ∀ y os', R y os' → K (ren2 ks y) (putT ks st ks os')) (hnd : ks.Nodup := by decide) (hsub : subT st ks (os.map (renT ks)) := by simp only [diskT, List.map_cons, List.map_nil, renT, renC_owM, renC_box, renC_own, renC_nown, renC_obj, renC_off, ren0, List.getD_cons_zero, List.getD_cons_succ]; repeat (first | exact trivial | refine ⟨rfl, ?_⟩)) (hargs : us.map nzA = ys.map (ren1 ks) := by rfl) (hoa : ys.all (ok1 os) = true := by simp only [diskT, cleanS, cle_owM, cle_own, cle_nown, cle_obj, cle_off, cle_box, okC, liveA, List.take_succ_cons, List.take_zero, List.all_cons, List.all_nil, List.getElem?_cons_zero, List.getElem?_cons_succ, isO_owM, isO_own, isO_nown, TC.isB, beq_self_eq_true, Bool.and_self, Bool.and_true, ok1, ok2, List.map_cons, List.map_nil]) (hcl : cleanS os = true := by simp only [diskT, cleanS, cle_owM, cle_own, cle_nown, cle_obj, cle_off, cle_box, okC, liveA, List.take_succ_cons, List.take_zero, List.all_cons, List.all_nil, List.getElem?_cons_zero, List.getElem?_cons_succ, isO_owM, isO_own, isO_nown, TC.isB, beq_self_eq_true, Bool.and_self, Bool.and_true, ok1, ok2, List.map_cons, List.map_nil]) : AOp P o t st K := op_enter hC hE ks hnd hsub hargs hoa hcl h
theorem AL.noD {K : List AV → List TK → Prop} {t' : List AV} {st' : List TK} (h : AL P ops K l t' st') (ht : t = t' := by (try simp only [diskT, putA, evA, List.getD_cons_zero, List.getD_cons_succ, List.set_cons_zero, List.set_cons_succ, List.length_map, KR, splA, List.map_cons, List.map_nil, List.length_append, List.length_cons, List.length_nil, List.drop_zero, csS_len, csS_take, csS_drop, csS_app, byA_len, byA_take, byA_drop, byA_app, ← List.map_take, ← List.map_drop, ← List.map_append, List.take_succ_cons, List.take_zero, List.drop_succ_cons, List.cons_append, List.nil_append, Nat.zero_add, Nat.reduceAdd, Nat.reduceMul, Nat.add_zero, Nat.mul_one, putT, renT, renC_owM, renC_box, renC_own, renC_nown, renC_obj, renC_off, ren2, ren1, ren0, ok1, ok2]); (try rfl)) (hs : st = st' := by (try simp only [diskT, putA, evA, List.getD_cons_zero, List.getD_cons_succ, List.set_cons_zero, List.set_cons_succ, List.length_map, KR, splA, List.map_cons, List.map_nil, List.length_append, List.length_cons, List.length_nil, List.drop_zero, csS_len, csS_take, csS_drop, csS_app, byA_len, byA_take, byA_drop, byA_app, ← List.map_take, ← List.map_drop, ← List.map_append, List.take_succ_cons, List.take_zero, List.drop_succ_cons, List.cons_append, List.nil_append, Nat.zero_add, Nat.reduceAdd, Nat.reduceMul, Nat.add_zero, Nat.mul_one, putT, renT, renC_owM, renC_box, renC_own, renC_nown, renC_obj, renC_off, ren2, ren1, ren0, ok1, ok2]); (try rfl)) : AL P ops K l t st := by subst ht hs; exact h
theorem ADB.noD {K : List AV → List TK → Prop} {t' : List AV} {st' : List TK} (h : ADB P l K fuel listed t' st') (ht : t = t' := by (try simp only [diskT, putA, evA, List.getD_cons_zero, List.getD_cons_succ, List.set_cons_zero, List.set_cons_succ, List.length_map, KR, splA, List.map_cons, List.map_nil, List.length_append, List.length_cons, List.length_nil, List.drop_zero, csS_len, csS_take, csS_drop, csS_app, byA_len, byA_take, byA_drop, byA_app, ← List.map_take, ← List.map_drop, ← List.map_append, List.take_succ_cons, List.take_zero, List.drop_succ_cons, List.cons_append, List.nil_append, Nat.zero_add, Nat.reduceAdd, Nat.reduceMul, Nat.add_zero, Nat.mul_one, putT, renT, renC_owM, renC_box, renC_own, renC_nown, renC_obj, renC_off, ren2, ren1, ren0, ok1, ok2]); (try rfl)) (hs : st = st' := by (try simp only [diskT, putA, evA, List.getD_cons_zero, List.getD_cons_succ, List.set_cons_zero, List.set_cons_succ, List.length_map, KR, splA, List.map_cons, List.map_nil, List.length_append, List.length_cons, List.length_nil, List.drop_zero, csS_len, csS_take, csS_drop, csS_app, byA_len, byA_take, byA_drop, byA_app, ← List.map_take, ← List.map_drop, ← List.map_append, List.take_succ_cons, List.take_zero, List.drop_succ_cons, List.cons_append, List.nil_append, Nat.zero_add, Nat.reduceAdd, Nat.reduceMul, Nat.add_zero, Nat.mul_one, putT, renT, renC_owM, renC_box, renC_own, renC_nown, renC_obj, renC_off, ren2, ren1, ren0, ok1, ok2]); (try rfl)) : ADB P l K fuel listed t st := by subst ht hs; exact h
theorem reso0D {fn : Func} {n : Nat} {R : AV → List TK → Prop} (hr : fn.results = #[]) (h : R (.tu []) (st.take n)) (hn : n ≤ st.length := by exact Nat.le_of_ble_eq_true rfl) (hc : cleanS (st.take n) = true := by simp only [diskT, cleanS, cle_owM, cle_own, cle_nown, cle_obj, cle_off, cle_box, okC, liveA, List.take_succ_cons, List.take_zero, List.all_cons, List.all_nil, List.getElem?_cons_zero, List.getElem?_cons_succ, isO_owM, isO_own, isO_nown, TC.isB, beq_self_eq_true, Bool.and_self, Bool.and_true, ok1, ok2, List.map_cons, List.map_nil]) : ResO P fn n R t st := reso0 hr hn hc h
theorem reso1D {fn : Func} {n : Nat} {R : AV → List TK → Prop} {r1 : ResultVar} {z1 y1 : AV} (hr : fn.results = #[r1]) (h1 : ResV P t st r1 z1) (hz1 : resO1 n st z1 = some y1) (h : R (y1) (st.take n)) (hn : n ≤ st.length := by exact Nat.le_of_ble_eq_true rfl) (hc : cleanS (st.take n) = true := by simp only [diskT, cleanS, cle_owM, cle_own, cle_nown, cle_obj, cle_off, cle_box, okC, liveA, List.take_succ_cons, List.take_zero, List.all_cons, List.all_nil, List.getElem?_cons_zero, List.getElem?_cons_succ, isO_owM, isO_own, isO_nown, TC.isB, beq_self_eq_true, Bool.and_self, Bool.and_true, ok1, ok2, List.map_cons, List.map_nil]) (hok : ok2 (st.take n) (y1) = true := by simp only [diskT, cleanS, cle_owM, cle_own, cle_nown, cle_obj, cle_off, cle_box, okC, liveA, List.take_succ_cons, List.take_zero, List.all_cons, List.all_nil, List.getElem?_cons_zero, List.getElem?_cons_succ, isO_owM, isO_own, isO_nown, TC.isB, beq_self_eq_true, Bool.and_self, Bool.and_true, ok1, ok2, List.map_cons, List.map_nil]) : ResO P fn n R t st := reso1 hr hn hc h1 hz1 hok h
theorem reso2D {fn : Func} {n : Nat} {R : AV → List TK → Prop} {r1 r2 : ResultVar} {z1 y1 z2 y2 : AV} (hr : fn.results = #[r1, r2]) (h1 : ResV P t st r1 z1) (hz1 : resO1 n st z1 = some y1) (h2 : ResV P t st r2 z2) (hz2 : resO1 n st z2 = some y2) (h : R (.tu [y1, y2]) (st.take n)) (hn : n ≤ st.length := by exact Nat.le_of_ble_eq_true rfl) (hc : cleanS (st.take n) = true := by simp only [diskT, cleanS, cle_owM, cle_own, cle_nown, cle_obj, cle_off, cle_box, okC, liveA, List.take_succ_cons, List.take_zero, List.all_cons, List.all_nil, List.getElem?_cons_zero, List.getElem?_cons_succ, isO_owM, isO_own, isO_nown, TC.isB, beq_self_eq_true, Bool.and_self, Bool.and_true, ok1, ok2, List.map_cons, List.map_nil]) (hok : ok2 (st.take n) (.tu [y1, y2]) = true := by simp only [diskT, cleanS, cle_owM, cle_own, cle_nown, cle_obj, cle_off, cle_box, okC, liveA, List.take_succ_cons, List.take_zero, List.all_cons, List.all_nil, List.getElem?_cons_zero, List.getElem?_cons_succ, isO_owM, isO_own, isO_nown, TC.isB, beq_self_eq_true, Bool.and_self, Bool.and_true, ok1, ok2, List.map_cons, List.map_nil]) : ResO P fn n R t st := reso2 hr hn hc h1 hz1 h2 hz2 hok h
theorem reso3D {fn : Func} {n : Nat} {R : AV → List TK → Prop} {r1 r2 r3 : ResultVar} {z1 y1 z2 y2 z3 y3 : AV} (hr : fn.results = #[r1, r2, r3]) (h1 : ResV P t st r1 z1) (hz1 : resO1 n st z1 = some y1) (h2 : ResV P t st r2 z2) (hz2 : resO1 n st z2 = some y2) (h3 : ResV P t st r3 z3) (hz3 : resO1 n st z3 = some y3) (h : R (.tu [y1, y2, y3]) (st.take n)) (hn : n ≤ st.length := by exact Nat.le_of_ble_eq_true rfl) (hc : cleanS (st.take n) = true := by simp only [diskT, cleanS, cle_owM, cle_own, cle_nown, cle_obj, cle_off, cle_box, okC, liveA, List.take_succ_cons, List.take_zero, List.all_cons, List.all_nil, List.getElem?_cons_zero, List.getElem?_cons_succ, isO_owM, isO_own, isO_nown, TC.isB, beq_self_eq_true, Bool.and_self, Bool.and_true, ok1, ok2, List.map_cons, List.map_nil]) (hok : ok2 (st.take n) (.tu [y1, y2, y3]) = true := by simp only [diskT, cleanS, cle_owM, cle_own, cle_nown, cle_obj, cle_off, cle_box, okC, liveA, List.take_succ_cons, List.take_zero, List.all_cons, List.all_nil, List.getElem?_cons_zero, List.getElem?_cons_succ, isO_owM, isO_own, isO_nown, TC.isB, beq_self_eq_true, Bool.and_self, Bool.and_true, ok1, ok2, List.map_cons, List.map_nil]) : ResO P fn n R t st := reso3 hr hn hc h1 hz1 h2 hz2 h3 hz3 hok h
end
def DiskAt (g : Nat) (d : DiskD) (os : List TK) : Prop := ∃ g1 g2 g3 g4 g5 g6 g7 g8 g9, os = diskT g g1 g2 g3 g4 g5 g6 g7 g8 g9 d
def newD (room : Int) : DiskD := ⟨room, fun _ => [], fun _ => true, fun _ => [], fun _ => true, [], 0, 0, false, 0, false⟩

theorem dnew_c (room : Int) (hr : 1 ≤ room ∧ room ≤ 200000) (h0 h1 h2 h3 h4 h5 h6 h7 h8 h9 : Nat) : ACo Try.prog 18 [.sc (.int .i64 room)] [⟨h0, .off⟩, ⟨h1, .off⟩, ⟨h2, .off⟩, ⟨h3, .off⟩, ⟨h4, .off⟩, ⟨h5, .off⟩, ⟨h6, .off⟩, ⟨h7, .off⟩, ⟨h8, .off⟩, ⟨h9, .off⟩]
    (fun y os' => y = .tu [.bx 0 (h0 + 1) 0, .sc (.int .i64 0)] ∧ DiskAt (h0 + 1) (newD room) os') := by
  refine ACo.of' (st0 := [⟨h0, .off⟩, ⟨h1, .off⟩, ⟨h2, .off⟩, ⟨h3, .off⟩, ⟨h4, .off⟩, ⟨h5, .off⟩, ⟨h6, .off⟩, ⟨h7, .off⟩, ⟨h8, .off⟩, ⟨h9, .off⟩, TK.mk 0 .off]) 12 1 Try.func18 rfl 10 ?_
  refine AW.seq ?_
  refine AW.region ?_
  refine AL.ra ?_
  refine AL.ra ?_
  refine AL.nil ?_
  change AW _ _ _ _ _
  refine AW.seq ?_
  refine AW.seq ?_
  refine AW.region ?_
  refine AL.rm ?_
  refine AL.r (rd_bin rfl rfl rfl (fun _ => rfl)) ?_
  refine AL.rm ?_
  refine AL.fk (d := 6) rfl (fun h6 => ?_) (fun h6 => ?_)
  ·skip
   refine AL.n ?_
   refine AL.rf ?_
   refine AL.rf ?_
   refine AL.r (rd_pick_t rfl rfl rfl) ?_
   refine AL.nil ?_
   change AW _ _ _ _ _
   refine AW.cond_t rfl ?_
   refine AW.seq ?_
   omega
  ·skip
   refine AL.n ?_
   refine AL.ro (rd_move rfl rfl) ?_
   refine AL.ro (rd_bin rfl rfl rfl (fun _ => rfl)) ?_
   refine AL.r (rd_pick_f rfl rfl rfl) ?_
   refine AL.nil ?_
   change AW _ _ _ _ _
   refine AW.cd rfl (fun h9 => ?_) (fun h9 => ?_)
   ·skip
    refine AW.seq ?_
    omega
   ·skip
    refine AW.skip ?_
    change AW _ _ _ _ _
    refine AW.seq ?_
    refine AW.region ?_
    refine AL.rm ?_
    refine AL.r (rd_build rfl pl_99 ze_99 rfl rfl) ?_
    refine AL.op rfl (AOpB.op (op_box 0 rfl rfl rfl rfl rfl ?_))
    refine AL.no ?_
    refine AL.nilbx 0 1 1 5 1 rfl rfl rfl (by decide) ?_
    refine AL.no ?_
    refine AL.nilbx 0 2 2 5 1 rfl rfl rfl (by decide) ?_
    refine AL.no ?_
    refine AL.nilbx 0 3 3 5 1 rfl rfl rfl (by decide) ?_
    refine AL.no ?_
    refine AL.nilbx 0 4 4 5 1 rfl rfl rfl (by decide) ?_
    refine AL.no ?_
    refine AL.nilbx 0 5 5 5 1 rfl rfl rfl (by decide) ?_
    refine AL.no ?_
    refine AL.nilbx 0 6 6 5 1 rfl rfl rfl (by decide) ?_
    refine AL.no ?_
    refine AL.nilbx 0 7 7 5 1 rfl rfl rfl (by decide) ?_
    refine AL.no ?_
    refine AL.nilbx 0 8 8 5 1 rfl rfl rfl (by decide) ?_
    refine AL.no ?_
    refine AL.nilbx 0 9 9 102 4 rfl rfl rfl (by decide) ?_
    refine AL.no ?_
    refine AL.ra ?_
    refine AL.ra ?_
    refine AL.nil ?_
    change AW _ _ _ _ _
    refine AW.ret ?_
    repeat with_reducible first | refine thenA_ret ?_ | refine inBlockA_ret ?_
    with_reducible first | refine retO_ret ?_ | refine retO_normal ?_
    refine reso2S rfl (ResV.tmp rfl) (resO_bx (by decide) rfl) (ResV.tmp rfl) rfl ?_
    exact ⟨rfl, _, _, _, _, _, _, _, _, _, rfl⟩
end Go.Proofs.Ytgjpeldgjpgbcaa
/- The disk's small functions: right, burn, Left, over abstract states. -/
namespace Go.Proofs.Ytgjpeldgjpgbcaa
set_option linter.unusedSimpArgs false
set_option linter.unusedVariables false
set_option maxRecDepth 100000
open Go.RowKit

theorem right_c (f : Int) : AC Try.prog 69 [.sc (.int .i64 f)] (fun r => r = .s (.sc (.bool (decide (0 ≤ f ∧ f < 4))))) := by
  refine AC.of' 8 0 Try.func69 rfl ?_
  change AW _ _ _ _ []
  refine AW.seq ?_
  refine AW.region ?_
  refine AL.ra ?_
  refine AL.nil ?_
  change AW _ _ _ _ _
  refine AW.seq ?_
  refine AW.region ?_
  refine AL.rm ?_
  refine AL.r (rd_bin rfl rfl rfl (fun _ => rfl)) ?_
  refine AL.rm ?_
  refine AL.fk (d := 5) rfl (fun h5 => ?_) (fun h5 => ?_)
  ·skip
   refine AL.n ?_
   refine AL.ro (rd_move rfl rfl) ?_
   refine AL.ro (rd_bin rfl rfl rfl (fun _ => rfl)) ?_
   refine AL.r (rd_pick_t rfl rfl rfl) ?_
   refine AL.ra ?_
   refine AL.nil ?_
   change AW _ _ _ _ _
   refine AW.ret ?_
   change ResA _ _ _ _ _
   refine res1 rfl (ResV.tmp rfl) rfl ?_
   simp_all <;> omega
  ·skip
   refine AL.n ?_
   refine AL.rf ?_
   refine AL.rf ?_
   refine AL.r (rd_pick_f rfl rfl rfl) ?_
   refine AL.ra ?_
   refine AL.nil ?_
   change AW _ _ _ _ _
   refine AW.ret ?_
   change ResA _ _ _ _ _
   refine res1 rfl (ResV.tmp rfl) rfl ?_
   simp_all <;> omega
theorem right_in {f : Int} (h : 0 ≤ f ∧ f < 4) : AC Try.prog 69 [.sc (.int .i64 f)] (fun r => r = .s (.sc (.bool true))) := (right_c f).mono fun r hr => by rw [hr, decide_eq_true h]
theorem right_out {f : Int} (h : ¬(0 ≤ f ∧ f < 4)) : AC Try.prog 69 [.sc (.int .i64 f)] (fun r => r = .s (.sc (.bool false))) := (right_c f).mono fun r hr => by rw [hr, decide_eq_false h]

def burnN (d : DiskD) (n : Int) : Int := if d.fused = true ∧ n > d.fuse then d.fuse else n
def burnD (d : DiskD) (n : Int) : DiskD := { d with done := IntKind.i64.wrap (d.done + burnN d n), fuse := if d.fused then d.fuse - burnN d n else d.fuse, dark := if d.fused = true ∧ n > d.fuse then true else d.dark }
section
variable (d : DiskD) (g g1 g2 g3 g4 g5 g6 g7 g8 g9 : Nat)
theorem burn_c (n : Int) (hf : 0 ≤ d.fuse ∧ d.fuse < 9223372036854775808) (hn : 0 ≤ n) : ACo Try.prog 70 [.bx 0 g 0, .sc (.int .i64 n)] (diskT g g1 g2 g3 g4 g5 g6 g7 g8 g9 d)
    (fun y os' => y = .sc (.int .i64 (burnN d n)) ∧ os' = diskT g g1 g2 g3 g4 g5 g6 g7 g8 g9 (burnD d n)) := by
  refine ACo.of' (st0 := [⟨g, .box 99 [.sc (.int .i64 d.room), .ow 1 g1, .ow 2 g2, .ow 3 g3, .ow 4 g4, .ow 5 g5, .ow 6 g6, .ow 7 g7, .ow 8 g8, .ow 9 g9, .sc (.int .i64 d.waits), .sc (.int .i64 d.done), .sc (.bool d.fused), .sc (.int .i64 d.fuse), .sc (.bool d.dark)]⟩, ⟨g1, owM (d.nf 0) 5 1 (byA (d.n 0))⟩, ⟨g2, owM (d.nf 1) 5 1 (byA (d.n 1))⟩, ⟨g3, owM (d.nf 2) 5 1 (byA (d.n 2))⟩, ⟨g4, owM (d.nf 3) 5 1 (byA (d.n 3))⟩, ⟨g5, owM (d.lf 0) 5 1 (byA (d.l 0))⟩, ⟨g6, owM (d.lf 1) 5 1 (byA (d.l 1))⟩, ⟨g7, owM (d.lf 2) 5 1 (byA (d.l 2))⟩, ⟨g8, owM (d.lf 3) 5 1 (byA (d.l 3))⟩, ⟨g9, owM true 102 4 (d.q.map DeedD.cs)⟩]) 43 0 Try.func70 rfl 10 ?_
  refine AW.seq ?_
  refine AW.region ?_
  refine AL.ra ?_
  refine AL.nil ?_
  change AW _ _ _ _ _
  refine AW.seq ?_
  refine AW.seq ?_
  refine AW.region ?_
  refine AL.rm ?_
  refine AL.r (rd_nilc_bx rfl rfl rfl) ?_
  refine AL.r (rd_faddr_bx rfl fo_99_6 rfl rfl ⟨_, _, rfl⟩) ?_
  refine AL.r (rd_load_bx rfl ag_4 rfl rfl rfl) ?_
  refine AL.rm ?_
  refine AL.fk (d := 9) rfl (fun h9 => ?_) (fun h9 => ?_)
  ·skip
   refine AL.n ?_
   refine AL.ro (rd_move rfl rfl) ?_
   refine AL.ro (rd_move rfl rfl) ?_
   refine AL.ro (rd_nilc_bx rfl rfl rfl) ?_
   refine AL.ro (rd_faddr_bx rfl fo_99_7 rfl rfl ⟨_, _, rfl⟩) ?_
   refine AL.ro (rd_load_bx rfl ag_3 rfl rfl rfl) ?_
   refine AL.ro (rd_bin rfl rfl rfl (fun _ => rfl)) ?_
   refine AL.r (rd_pick_t rfl rfl rfl) ?_
   refine AL.nil ?_
   change AW _ _ _ _ _
   refine AW.cd rfl (fun h16 => ?_) (fun h16 => ?_)
   ·skip
    refine AW.seq ?_
    refine AW.region ?_
    refine AL.rm ?_
    refine AL.r (rd_nilc_bx rfl rfl rfl) ?_
    refine AL.r (rd_faddr_bx rfl fo_99_7 rfl rfl ⟨_, _, rfl⟩) ?_
    refine AL.r (rd_load_bx rfl ag_3 rfl rfl rfl) ?_
    refine AL.ra ?_
    refine AL.nil ?_
    change AW _ _ _ _ _
    refine AW.region ?_
    refine AL.rm ?_
    refine AL.r (rd_nilc_bx rfl rfl rfl) ?_
    refine AL.r (rd_faddr_bx rfl fo_99_8 rfl rfl ⟨_, _, rfl⟩) ?_
    refine AL.op rfl (op_store_ rfl rfl rfl rfl rfl sz_4 ?_)
    refine AL.no ?_
    refine AL.nil ?_
    change AW _ _ _ _ _
    refine AW.seq ?_
    refine AW.seq ?_
    refine AW.region ?_
    refine AL.rm ?_
    refine AL.r (rd_nilc_bx rfl rfl rfl) ?_
    refine AL.r (rd_faddr_bx rfl fo_99_6 rfl rfl ⟨_, _, rfl⟩) ?_
    refine AL.r (rd_load_bx rfl ag_4 rfl rfl rfl) ?_
    refine AL.nil ?_
    change AW _ _ _ _ _
    refine AW.cd rfl (fun h27 => ?_) (fun h27 => ?_)
    ·skip
     refine AW.region ?_
     refine AL.rm ?_
     refine AL.r (rd_nilc_bx rfl rfl rfl) ?_
     refine AL.r (rd_faddr_bx rfl fo_99_7 rfl rfl ⟨_, _, rfl⟩) ?_
     refine AL.r (rd_load_bx rfl ag_3 rfl rfl rfl) ?_
     refine AL.rm ?_
     refine AL.r (rd_arith_sub rfl rfl rfl (by first | exact IntWalk.i64_in _ (by omega) | rfl)) ?_
     refine AL.r (rd_nilc_bx rfl rfl rfl) ?_
     refine AL.r (rd_faddr_bx rfl fo_99_7 rfl rfl ⟨_, _, rfl⟩) ?_
     refine AL.op rfl (op_store_ rfl rfl rfl rfl rfl sz_3 ?_)
     refine AL.no ?_
     refine AL.nil ?_
     change AW _ _ _ _ _
     refine AW.seq ?_
     refine AW.region ?_
     refine AL.rm ?_
     refine AL.r (rd_nilc_bx rfl rfl rfl) ?_
     refine AL.r (rd_faddr_bx rfl fo_99_5 rfl rfl ⟨_, _, rfl⟩) ?_
     refine AL.r (rd_load_bx rfl ag_3 rfl rfl rfl) ?_
     refine AL.rm ?_
     refine AL.r (rd_arith_add rfl rfl rfl (rfl)) ?_
     refine AL.r (rd_nilc_bx rfl rfl rfl) ?_
     refine AL.r (rd_faddr_bx rfl fo_99_5 rfl rfl ⟨_, _, rfl⟩) ?_
     refine AL.op rfl (op_store_ rfl rfl rfl rfl rfl sz_3 ?_)
     refine AL.no ?_
     refine AL.nil ?_
     change AW _ _ _ _ _
     refine AW.seq ?_
     refine AW.region ?_
     refine AL.rm ?_
     refine AL.ra ?_
     refine AL.nil ?_
     change AW _ _ _ _ _
     refine AW.ret ?_
     repeat with_reducible first | refine thenA_ret ?_ | refine inBlockA_ret ?_
     with_reducible first | refine retO_ret ?_ | refine retO_normal ?_
     refine reso1S rfl (ResV.tmp rfl) rfl ?_
     first | (simp [h9] at h27; done) | (simp [burnN, burnD, diskT, h9, h16]; done) | (simp [burnN, burnD, diskT, h9]; done)
    ·skip
     refine AW.skip ?_
     change AW _ _ _ _ _
     refine AW.seq ?_
     refine AW.region ?_
     refine AL.rm ?_
     refine AL.r (rd_nilc_bx rfl rfl rfl) ?_
     refine AL.r (rd_faddr_bx rfl fo_99_5 rfl rfl ⟨_, _, rfl⟩) ?_
     refine AL.r (rd_load_bx rfl ag_3 rfl rfl rfl) ?_
     refine AL.rm ?_
     refine AL.r (rd_arith_add rfl rfl rfl (rfl)) ?_
     refine AL.r (rd_nilc_bx rfl rfl rfl) ?_
     refine AL.r (rd_faddr_bx rfl fo_99_5 rfl rfl ⟨_, _, rfl⟩) ?_
     refine AL.op rfl (op_store_ rfl rfl rfl rfl rfl sz_3 ?_)
     refine AL.no ?_
     refine AL.nil ?_
     change AW _ _ _ _ _
     refine AW.seq ?_
     refine AW.region ?_
     refine AL.rm ?_
     refine AL.ra ?_
     refine AL.nil ?_
     change AW _ _ _ _ _
     refine AW.ret ?_
     repeat with_reducible first | refine thenA_ret ?_ | refine inBlockA_ret ?_
     with_reducible first | refine retO_ret ?_ | refine retO_normal ?_
     refine reso1S rfl (ResV.tmp rfl) rfl ?_
     first | (simp [h9] at h27; done) | (simp [burnN, burnD, diskT, h9, h16]; done) | (simp [burnN, burnD, diskT, h9]; done)
   ·skip
    refine AW.skip ?_
    change AW _ _ _ _ _
    refine AW.seq ?_
    refine AW.seq ?_
    refine AW.region ?_
    refine AL.rm ?_
    refine AL.r (rd_nilc_bx rfl rfl rfl) ?_
    refine AL.r (rd_faddr_bx rfl fo_99_6 rfl rfl ⟨_, _, rfl⟩) ?_
    refine AL.r (rd_load_bx rfl ag_4 rfl rfl rfl) ?_
    refine AL.nil ?_
    change AW _ _ _ _ _
    refine AW.cd rfl (fun h27 => ?_) (fun h27 => ?_)
    ·skip
     refine AW.region ?_
     refine AL.rm ?_
     refine AL.r (rd_nilc_bx rfl rfl rfl) ?_
     refine AL.r (rd_faddr_bx rfl fo_99_7 rfl rfl ⟨_, _, rfl⟩) ?_
     refine AL.r (rd_load_bx rfl ag_3 rfl rfl rfl) ?_
     refine AL.rm ?_
     refine AL.r (rd_arith_sub rfl rfl rfl (by first | exact IntWalk.i64_in _ (by omega) | rfl)) ?_
     refine AL.r (rd_nilc_bx rfl rfl rfl) ?_
     refine AL.r (rd_faddr_bx rfl fo_99_7 rfl rfl ⟨_, _, rfl⟩) ?_
     refine AL.op rfl (op_store_ rfl rfl rfl rfl rfl sz_3 ?_)
     refine AL.no ?_
     refine AL.nil ?_
     change AW _ _ _ _ _
     refine AW.seq ?_
     refine AW.region ?_
     refine AL.rm ?_
     refine AL.r (rd_nilc_bx rfl rfl rfl) ?_
     refine AL.r (rd_faddr_bx rfl fo_99_5 rfl rfl ⟨_, _, rfl⟩) ?_
     refine AL.r (rd_load_bx rfl ag_3 rfl rfl rfl) ?_
     refine AL.rm ?_
     refine AL.r (rd_arith_add rfl rfl rfl (rfl)) ?_
     refine AL.r (rd_nilc_bx rfl rfl rfl) ?_
     refine AL.r (rd_faddr_bx rfl fo_99_5 rfl rfl ⟨_, _, rfl⟩) ?_
     refine AL.op rfl (op_store_ rfl rfl rfl rfl rfl sz_3 ?_)
     refine AL.no ?_
     refine AL.nil ?_
     change AW _ _ _ _ _
     refine AW.seq ?_
     refine AW.region ?_
     refine AL.rm ?_
     refine AL.ra ?_
     refine AL.nil ?_
     change AW _ _ _ _ _
     refine AW.ret ?_
     repeat with_reducible first | refine thenA_ret ?_ | refine inBlockA_ret ?_
     with_reducible first | refine retO_ret ?_ | refine retO_normal ?_
     refine reso1S rfl (ResV.tmp rfl) rfl ?_
     first | (simp [h9] at h27; done) | (simp [burnN, burnD, diskT, h9, h16]; done) | (simp [burnN, burnD, diskT, h9]; done)
    ·skip
     refine AW.skip ?_
     change AW _ _ _ _ _
     refine AW.seq ?_
     refine AW.region ?_
     refine AL.rm ?_
     refine AL.r (rd_nilc_bx rfl rfl rfl) ?_
     refine AL.r (rd_faddr_bx rfl fo_99_5 rfl rfl ⟨_, _, rfl⟩) ?_
     refine AL.r (rd_load_bx rfl ag_3 rfl rfl rfl) ?_
     refine AL.rm ?_
     refine AL.r (rd_arith_add rfl rfl rfl (rfl)) ?_
     refine AL.r (rd_nilc_bx rfl rfl rfl) ?_
     refine AL.r (rd_faddr_bx rfl fo_99_5 rfl rfl ⟨_, _, rfl⟩) ?_
     refine AL.op rfl (op_store_ rfl rfl rfl rfl rfl sz_3 ?_)
     refine AL.no ?_
     refine AL.nil ?_
     change AW _ _ _ _ _
     refine AW.seq ?_
     refine AW.region ?_
     refine AL.rm ?_
     refine AL.ra ?_
     refine AL.nil ?_
     change AW _ _ _ _ _
     refine AW.ret ?_
     repeat with_reducible first | refine thenA_ret ?_ | refine inBlockA_ret ?_
     with_reducible first | refine retO_ret ?_ | refine retO_normal ?_
     refine reso1S rfl (ResV.tmp rfl) rfl ?_
     first | (simp [h9] at h27; done) | (simp [burnN, burnD, diskT, h9, h16]; done) | (simp [burnN, burnD, diskT, h9]; done)
  ·skip
   refine AL.n ?_
   refine AL.rf ?_
   refine AL.rf ?_
   refine AL.rf ?_
   refine AL.rf ?_
   refine AL.rf ?_
   refine AL.rf ?_
   refine AL.r (rd_pick_f rfl rfl rfl) ?_
   refine AL.nil ?_
   change AW _ _ _ _ _
   refine AW.cond_f rfl ?_
   refine AW.skip ?_
   change AW _ _ _ _ _
   refine AW.seq ?_
   refine AW.seq ?_
   refine AW.region ?_
   refine AL.rm ?_
   refine AL.r (rd_nilc_bx rfl rfl rfl) ?_
   refine AL.r (rd_faddr_bx rfl fo_99_6 rfl rfl ⟨_, _, rfl⟩) ?_
   refine AL.r (rd_load_bx rfl ag_4 rfl rfl rfl) ?_
   refine AL.nil ?_
   change AW _ _ _ _ _
   refine AW.cd rfl (fun h27 => ?_) (fun h27 => ?_)
   ·skip
    refine AW.region ?_
    refine AL.rm ?_
    refine AL.r (rd_nilc_bx rfl rfl rfl) ?_
    refine AL.r (rd_faddr_bx rfl fo_99_7 rfl rfl ⟨_, _, rfl⟩) ?_
    refine AL.r (rd_load_bx rfl ag_3 rfl rfl rfl) ?_
    refine AL.rm ?_
    refine AL.r (rd_arith_sub rfl rfl rfl (by first | exact IntWalk.i64_in _ (by omega) | rfl)) ?_
    refine AL.r (rd_nilc_bx rfl rfl rfl) ?_
    refine AL.r (rd_faddr_bx rfl fo_99_7 rfl rfl ⟨_, _, rfl⟩) ?_
    refine AL.op rfl (op_store_ rfl rfl rfl rfl rfl sz_3 ?_)
    refine AL.no ?_
    refine AL.nil ?_
    change AW _ _ _ _ _
    refine AW.seq ?_
    refine AW.region ?_
    refine AL.rm ?_
    refine AL.r (rd_nilc_bx rfl rfl rfl) ?_
    refine AL.r (rd_faddr_bx rfl fo_99_5 rfl rfl ⟨_, _, rfl⟩) ?_
    refine AL.r (rd_load_bx rfl ag_3 rfl rfl rfl) ?_
    refine AL.rm ?_
    refine AL.r (rd_arith_add rfl rfl rfl (rfl)) ?_
    refine AL.r (rd_nilc_bx rfl rfl rfl) ?_
    refine AL.r (rd_faddr_bx rfl fo_99_5 rfl rfl ⟨_, _, rfl⟩) ?_
    refine AL.op rfl (op_store_ rfl rfl rfl rfl rfl sz_3 ?_)
    refine AL.no ?_
    refine AL.nil ?_
    change AW _ _ _ _ _
    refine AW.seq ?_
    refine AW.region ?_
    refine AL.rm ?_
    refine AL.ra ?_
    refine AL.nil ?_
    change AW _ _ _ _ _
    refine AW.ret ?_
    repeat with_reducible first | refine thenA_ret ?_ | refine inBlockA_ret ?_
    with_reducible first | refine retO_ret ?_ | refine retO_normal ?_
    refine reso1S rfl (ResV.tmp rfl) rfl ?_
    first | (simp [h9] at h27; done) | (simp [burnN, burnD, diskT, h9, h16]; done) | (simp [burnN, burnD, diskT, h9]; done)
   ·skip
    refine AW.skip ?_
    change AW _ _ _ _ _
    refine AW.seq ?_
    refine AW.region ?_
    refine AL.rm ?_
    refine AL.r (rd_nilc_bx rfl rfl rfl) ?_
    refine AL.r (rd_faddr_bx rfl fo_99_5 rfl rfl ⟨_, _, rfl⟩) ?_
    refine AL.r (rd_load_bx rfl ag_3 rfl rfl rfl) ?_
    refine AL.rm ?_
    refine AL.r (rd_arith_add rfl rfl rfl (rfl)) ?_
    refine AL.r (rd_nilc_bx rfl rfl rfl) ?_
    refine AL.r (rd_faddr_bx rfl fo_99_5 rfl rfl ⟨_, _, rfl⟩) ?_
    refine AL.op rfl (op_store_ rfl rfl rfl rfl rfl sz_3 ?_)
    refine AL.no ?_
    refine AL.nil ?_
    change AW _ _ _ _ _
    refine AW.seq ?_
    refine AW.region ?_
    refine AL.rm ?_
    refine AL.ra ?_
    refine AL.nil ?_
    change AW _ _ _ _ _
    refine AW.ret ?_
    repeat with_reducible first | refine thenA_ret ?_ | refine inBlockA_ret ?_
    with_reducible first | refine retO_ret ?_ | refine retO_normal ?_
    refine reso1S rfl (ResV.tmp rfl) rfl ?_
    first | (simp [h9] at h27; done) | (simp [burnN, burnD, diskT, h9, h16]; done) | (simp [burnN, burnD, diskT, h9]; done)
theorem left_c (hr : 0 ≤ d.room ∧ d.room ≤ 200000) (hn : ∀ i, (d.n i).length ≤ 1099511627776) : ACo Try.prog 32 [.bx 0 g 0] (diskT g g1 g2 g3 g4 g5 g6 g7 g8 g9 d)
    (fun y os' => y = .sc (.int .i64 (d.room - (d.n 0).length - (d.n 1).length - (d.n 2).length - (d.n 3).length)) ∧ os' = diskT g g1 g2 g3 g4 g5 g6 g7 g8 g9 d) := by
  have hn0 := hn 0; have hn1 := hn 1; have hn2 := hn 2; have hn3 := hn 3
  refine ACo.of' (st0 := [⟨g, .box 99 [.sc (.int .i64 d.room), .ow 1 g1, .ow 2 g2, .ow 3 g3, .ow 4 g4, .ow 5 g5, .ow 6 g6, .ow 7 g7, .ow 8 g8, .ow 9 g9, .sc (.int .i64 d.waits), .sc (.int .i64 d.done), .sc (.bool d.fused), .sc (.int .i64 d.fuse), .sc (.bool d.dark)]⟩, ⟨g1, owM (d.nf 0) 5 1 (byA (d.n 0))⟩, ⟨g2, owM (d.nf 1) 5 1 (byA (d.n 1))⟩, ⟨g3, owM (d.nf 2) 5 1 (byA (d.n 2))⟩, ⟨g4, owM (d.nf 3) 5 1 (byA (d.n 3))⟩, ⟨g5, owM (d.lf 0) 5 1 (byA (d.l 0))⟩, ⟨g6, owM (d.lf 1) 5 1 (byA (d.l 1))⟩, ⟨g7, owM (d.lf 2) 5 1 (byA (d.l 2))⟩, ⟨g8, owM (d.lf 3) 5 1 (byA (d.l 3))⟩, ⟨g9, owM true 102 4 (d.q.map DeedD.cs)⟩]) 24 0 Try.func32 rfl 10 ?_
  refine AW.seq ?_
  refine AW.region ?_
  refine AL.ra ?_
  refine AL.nil ?_
  change AW _ _ _ _ _
  refine AW.seq ?_
  refine AW.seq ?_
  refine AW.region ?_
  refine AL.rm ?_
  refine AL.r (rd_peq_bx rfl pt_25 rfl rfl rfl) ?_
  refine AL.nil ?_
  change AW _ _ _ _ _
  refine AW.cond_f rfl ?_
  refine AW.skip ?_
  change AW _ _ _ _ _
  refine AW.seq ?_
  refine AW.region ?_
  refine AL.rm ?_
  refine AL.r (rd_nilc_bx rfl rfl rfl) ?_
  refine AL.r (rd_faddr_bx rfl fo_99_0 rfl rfl ⟨_, _, rfl⟩) ?_
  refine AL.r (rd_load_bx rfl ag_3 rfl rfl rfl) ?_
  refine AL.ra ?_
  refine AL.nil ?_
  change AW _ _ _ _ _
  refine AW.seq ?_
  refine AW.seq ?_
  refine AW.region ?_
  refine AL.rm ?_
  refine AL.r (rd_nilc_bx rfl rfl rfl) ?_
  refine AL.r (rd_faddr_bx rfl fo_99_1 rfl rfl ⟨_, _, rfl⟩) ?_
  refine AL.r (rd_loadN_bx rfl ag_37 rfl rfl (Nat.le_of_ble_eq_true rfl) rfl) ?_
  refine AL.rm ?_
  refine AL.nil ?_
  change AW _ _ _ _ _
  refine AW.block ?_
  refine AW.unroll 5 ?_
  change AW _ _ _ _ _
  refine AW.seq ?_
  refine AW.region ?_
  refine AL.r (rd_bin rfl rfl rfl (fun _ => rfl)) ?_
  refine AL.nil ?_
  change AW _ _ _ _ _
  refine AW.seq ?_
  refine AW.cond_t rfl ?_
  refine AW.skip ?_
  change AW _ _ _ _ _
  refine AW.seq ?_
  refine AW.block ?_
  refine AW.seq ?_
  refine AW.region ?_
  refine AL.r (rd_index_ag (i := 0) rfl ar_37 ag_29 rfl rfl (by first | rfl | omega) (by decide) rfl) ?_
  refine AL.ra ?_
  refine AL.nil ?_
  change AW _ _ _ _ _
  refine AW.region ?_
  refine AL.rm ?_
  refine AL.rm ?_
  refine AL.r (rd_len_owM rfl el_29 rfl rfl) ?_
  refine AL.r (rd_arith_sub rfl rfl rfl (by first | exact IntWalk.i64_in _ (by omega) | rfl)) ?_
  refine AL.ra ?_
  refine AL.nil ?_
  change AW _ _ _ _ _
  refine AW.region ?_
  refine AL.r (rd_arith_add rfl rfl rfl (rfl : _ = (1 : Int))) ?_
  refine AL.rm ?_
  refine AL.nil ?_
  change AW _ _ _ _ _
  refine AW.seq ?_
  refine AW.region ?_
  refine AL.r (rd_bin rfl rfl rfl (fun _ => rfl)) ?_
  refine AL.nil ?_
  change AW _ _ _ _ _
  refine AW.seq ?_
  refine AW.cond_t rfl ?_
  refine AW.skip ?_
  change AW _ _ _ _ _
  refine AW.seq ?_
  refine AW.block ?_
  refine AW.seq ?_
  refine AW.region ?_
  refine AL.r (rd_index_ag (i := 1) rfl ar_37 ag_29 rfl rfl (by first | rfl | omega) (by decide) rfl) ?_
  refine AL.ra ?_
  refine AL.nil ?_
  change AW _ _ _ _ _
  refine AW.region ?_
  refine AL.rm ?_
  refine AL.rm ?_
  refine AL.r (rd_len_owM rfl el_29 rfl rfl) ?_
  refine AL.r (rd_arith_sub rfl rfl rfl (by first | exact IntWalk.i64_in _ (by omega) | rfl)) ?_
  refine AL.ra ?_
  refine AL.nil ?_
  change AW _ _ _ _ _
  refine AW.region ?_
  refine AL.r (rd_arith_add rfl rfl rfl (rfl : _ = (2 : Int))) ?_
  refine AL.rm ?_
  refine AL.nil ?_
  change AW _ _ _ _ _
  refine AW.seq ?_
  refine AW.region ?_
  refine AL.r (rd_bin rfl rfl rfl (fun _ => rfl)) ?_
  refine AL.nil ?_
  change AW _ _ _ _ _
  refine AW.seq ?_
  refine AW.cond_t rfl ?_
  refine AW.skip ?_
  change AW _ _ _ _ _
  refine AW.seq ?_
  refine AW.block ?_
  refine AW.seq ?_
  refine AW.region ?_
  refine AL.r (rd_index_ag (i := 2) rfl ar_37 ag_29 rfl rfl (by first | rfl | omega) (by decide) rfl) ?_
  refine AL.ra ?_
  refine AL.nil ?_
  change AW _ _ _ _ _
  refine AW.region ?_
  refine AL.rm ?_
  refine AL.rm ?_
  refine AL.r (rd_len_owM rfl el_29 rfl rfl) ?_
  refine AL.r (rd_arith_sub rfl rfl rfl (by first | exact IntWalk.i64_in _ (by omega) | rfl)) ?_
  refine AL.ra ?_
  refine AL.nil ?_
  change AW _ _ _ _ _
  refine AW.region ?_
  refine AL.r (rd_arith_add rfl rfl rfl (rfl : _ = (3 : Int))) ?_
  refine AL.rm ?_
  refine AL.nil ?_
  change AW _ _ _ _ _
  refine AW.seq ?_
  refine AW.region ?_
  refine AL.r (rd_bin rfl rfl rfl (fun _ => rfl)) ?_
  refine AL.nil ?_
  change AW _ _ _ _ _
  refine AW.seq ?_
  refine AW.cond_t rfl ?_
  refine AW.skip ?_
  change AW _ _ _ _ _
  refine AW.seq ?_
  refine AW.block ?_
  refine AW.seq ?_
  refine AW.region ?_
  refine AL.r (rd_index_ag (i := 3) rfl ar_37 ag_29 rfl rfl (by first | rfl | omega) (by decide) rfl) ?_
  refine AL.ra ?_
  refine AL.nil ?_
  change AW _ _ _ _ _
  refine AW.region ?_
  refine AL.rm ?_
  refine AL.rm ?_
  refine AL.r (rd_len_owM rfl el_29 rfl rfl) ?_
  refine AL.r (rd_arith_sub rfl rfl rfl (by first | exact IntWalk.i64_in _ (by omega) | rfl)) ?_
  refine AL.ra ?_
  refine AL.nil ?_
  change AW _ _ _ _ _
  refine AW.region ?_
  refine AL.r (rd_arith_add rfl rfl rfl (rfl : _ = (4 : Int))) ?_
  refine AL.rm ?_
  refine AL.nil ?_
  change AW _ _ _ _ _
  refine AW.seq ?_
  refine AW.region ?_
  refine AL.r (rd_bin rfl rfl rfl (fun _ => rfl)) ?_
  refine AL.nil ?_
  change AW _ _ _ _ _
  refine AW.seq ?_
  refine AW.cond_f rfl ?_
  refine AW.exit ?_
  change AW _ _ _ _ _
  refine AW.seq ?_
  refine AW.region ?_
  refine AL.rm ?_
  refine AL.ra ?_
  refine AL.nil ?_
  change AW _ _ _ _ _
  refine AW.ret ?_
  repeat with_reducible first | refine thenA_ret ?_ | refine inBlockA_ret ?_
  with_reducible first | refine retO_ret ?_ | refine retO_normal ?_
  refine reso1S rfl (ResV.tmp rfl) rfl ?_
  exact ⟨rfl, rfl⟩
end
end Go.Proofs.Ytgjpeldgjpgbcaa
/- The disk's functions Append and Cut, over abstract states. -/
namespace Go.Proofs.Ytgjpeldgjpgbcaa
set_option linter.unusedSimpArgs false
set_option linter.unusedVariables false
set_option maxRecDepth 100000
open Go.RowKit

def upd {α : Type} (f : Nat → α) (i : Nat) (v : α) : Nat → α := fun j => if j = i then v else f j
def leftD (d : DiskD) : Int := d.room - (d.n 0).length - (d.n 1).length - (d.n 2).length - (d.n 3).length
def pushD (d : DiskD) (i : Nat) (x : List UInt8) (n : Int) : DiskD := { d with n := upd d.n i (d.n i ++ x), q := d.q ++ [⟨i, false, 0, x⟩], waits := d.waits + n }
def appD (d : DiskD) (i : Nat) (b : List UInt8) : DiskD := if d.dark = true then d else if leftD d < b.length then d else if 0 < burnN d b.length then pushD (burnD d b.length) i (b.take (burnN d b.length).toNat) (burnN d b.length) else burnD d b.length
def appR (d : DiskD) (b : List UInt8) : Int := if d.dark = true then 10 else if leftD d < b.length then 9 else if (burnD d b.length).dark = true then 10 else 0
def cutD1 (d : DiskD) (i : Nat) (n : Nat) : DiskD := { d with n := upd d.n i ((d.n i).take n), nf := upd d.nf i (d.nf i && (byA (d.n i)).isEmpty), q := d.q ++ [⟨i, true, n, []⟩], waits := d.waits + 1 }
def cutD (d : DiskD) (i : Nat) (n : Int) : DiskD := if n < 0 ∨ ((d.n i).length : Int) < n then d else if d.dark = true then d else if burnN d 1 = 0 then burnD d 1 else cutD1 (burnD d 1) i n.toNat
def cutR (d : DiskD) (i : Nat) (n : Int) : Int := if n < 0 ∨ ((d.n i).length : Int) < n then 2 else if d.dark = true then 10 else if burnN d 1 = 0 then 10 else 0
theorem lfD {g g1 g2 g3 g4 g5 g6 g7 g8 g9 : Nat} {a c : Int} {y : AV} {D D' : DiskD} {os : List TK} (e : a = c ∧ D = D') (h1 : y = .sc (.int .i64 c) := by rfl) (h2 : os = diskT g g1 g2 g3 g4 g5 g6 g7 g8 g9 D' := by first | rfl | (simp only [diskT, pushD, cutD1, Int.toNat_natCast, List.map_append, List.map_cons, List.map_nil, DeedD.cs]; rfl)) : y = .sc (.int .i64 a) ∧ DiskAt g D os := by
  rw [e.1, e.2]
  exact ⟨h1, g1, g2, g3, g4, g5, g6, g7, g8, g9, h2⟩
/-- Sizes that no walk outgrows. -/
structure DiskD.Fit (d : DiskD) : Prop where
  room : 0 ≤ d.room ∧ d.room ≤ 200000
  fuse : 0 ≤ d.fuse ∧ d.fuse < 9223372036854775808
  n : ∀ i, (d.n i).length ≤ 1099511627776
  w : 0 ≤ d.waits ∧ d.waits ≤ 1099511627776
  q : d.q.length ≤ 1099511627776
theorem burnN_le {d : DiskD} {n : Int} (h : d.Fit) (hn : 0 ≤ n) : 0 ≤ burnN d n ∧ burnN d n ≤ n := by
  have := h.fuse
  unfold burnN
  split <;> omega
section
variable {d : DiskD} {b : List UInt8} {i : Nat} {n : Int} {v : Bool}
theorem app_dark (h : d.dark = true) : appR d b = 10 ∧ appD d i b = d := by simp only [appR, appD, h, if_true, and_self]
theorem app_full (h : d.dark = false) (h2 : leftD d < b.length) : appR d b = 9 ∧ appD d i b = d := by simp only [appR, appD, h, h2, if_true, if_false, Bool.false_eq_true, and_self]
theorem app_go (h : d.dark = false) (h2 : ¬ leftD d < b.length) (h3 : 0 < burnN d b.length) (h4 : (burnD d b.length).dark = v) : appR d b = (if v = true then 10 else 0) ∧ appD d i b = pushD (burnD d b.length) i (b.take (burnN d b.length).toNat) (burnN d b.length) := by simp only [appR, appD, h, h2, h3, h4, if_true, if_false, Bool.false_eq_true, and_self]
theorem app_no (h : d.dark = false) (h2 : ¬ leftD d < b.length) (h3 : ¬ 0 < burnN d b.length) (h4 : (burnD d b.length).dark = v) : appR d b = (if v = true then 10 else 0) ∧ appD d i b = burnD d b.length := by simp only [appR, appD, h, h2, h3, h4, if_true, if_false, Bool.false_eq_true, and_self]
theorem cut_arg (h : n < 0 ∨ ((d.n i).length : Int) < n) : cutR d i n = 2 ∧ cutD d i n = d := by simp only [cutR, cutD, h, if_true, and_self]
theorem cut_dark (h : ¬ n < 0) (h' : ¬ ((d.n i).length : Int) < n) (h1 : d.dark = true) : cutR d i n = 10 ∧ cutD d i n = d := by simp only [cutR, cutD, h, h', h1, or_self, if_true, if_false, and_self]
theorem cut_burn (h : ¬ n < 0) (h' : ¬ ((d.n i).length : Int) < n) (h1 : d.dark = false) (h2 : burnN d 1 = 0) : cutR d i n = 10 ∧ cutD d i n = burnD d 1 := by simp only [cutR, cutD, h, h', h1, h2, or_self, if_true, if_false, Bool.false_eq_true, and_self]
theorem cut_go (h : ¬ n < 0) (h' : ¬ ((d.n i).length : Int) < n) (h1 : d.dark = false) (h2 : ¬ burnN d 1 = 0) : cutR d i n = 0 ∧ cutD d i n = cutD1 (burnD d 1) i n.toNat := by simp only [cutR, cutD, h, h', h1, h2, or_self, if_true, if_false, Bool.false_eq_true, and_self]
end
section
variable (d : DiskD) (g g1 g2 g3 g4 g5 g6 g7 g8 g9 : Nat)
theorem append_c0 (b : List UInt8) (h : d.Fit) (hb : b.length ≤ 1099511627776) : ACo Try.prog 19 [.bx 0 g 0, .sc (.int .i64 0), .sl (byA b)] (diskT g g1 g2 g3 g4 g5 g6 g7 g8 g9 d)
    (fun y os' => y = .sc (.int .i64 (appR d b)) ∧ DiskAt g (appD d 0 b) os') := by
  have hbn := burnN_le (n := b.length) h (by omega)
  have hw := h.w
  have hnn := h.n 0
  have hqq := h.q
  refine ACo.of' (st0 := [⟨g, .box 99 [.sc (.int .i64 d.room), .ow 1 g1, .ow 2 g2, .ow 3 g3, .ow 4 g4, .ow 5 g5, .ow 6 g6, .ow 7 g7, .ow 8 g8, .ow 9 g9, .sc (.int .i64 d.waits), .sc (.int .i64 d.done), .sc (.bool d.fused), .sc (.int .i64 d.fuse), .sc (.bool d.dark)]⟩, ⟨g1, owM (d.nf 0) 5 1 (byA (d.n 0))⟩, ⟨g2, owM (d.nf 1) 5 1 (byA (d.n 1))⟩, ⟨g3, owM (d.nf 2) 5 1 (byA (d.n 2))⟩, ⟨g4, owM (d.nf 3) 5 1 (byA (d.n 3))⟩, ⟨g5, owM (d.lf 0) 5 1 (byA (d.l 0))⟩, ⟨g6, owM (d.lf 1) 5 1 (byA (d.l 1))⟩, ⟨g7, owM (d.lf 2) 5 1 (byA (d.l 2))⟩, ⟨g8, owM (d.lf 3) 5 1 (byA (d.l 3))⟩, ⟨g9, owM true 102 4 (d.q.map DeedD.cs)⟩, TK.mk 0 .off, TK.mk 0 .off, TK.mk 0 .off, TK.mk 0 .off, TK.mk 0 .off]) 68 5 Try.func19 rfl 10 ?_
  refine AW.seq ?_
  refine AW.region ?_
  refine AL.ra ?_
  refine AL.nil ?_
  change AW _ _ _ _ _
  refine AW.seq ?_
  refine AW.seq ?_
  refine AW.region ?_
  refine AL.rm ?_
  refine AL.r (rd_peq_bx rfl pt_25 rfl rfl rfl) ?_
  refine AL.nil ?_
  change AW _ _ _ _ _
  refine AW.cond_f rfl ?_
  refine AW.skip ?_
  change AW _ _ _ _ _
  refine AW.seq ?_
  refine AW.seq ?_
  refine AW.region ?_
  refine AL.rm ?_
  refine AL.op rfl (AOpB.op (op_call (right_in (by decide)) rfl (by kernel_rfl) rfl (none) ?_))
  rintro r rfl
  refine AL.no ?_
  refine AL.r (rd_un rfl rfl (fun _ => rfl)) ?_
  refine AL.nil ?_
  change AW _ _ _ _ _
  refine AW.cond_f rfl ?_
  refine AW.skip ?_
  change AW _ _ _ _ _
  refine AW.seq ?_
  refine AW.seq ?_
  refine AW.region ?_
  refine AL.rm ?_
  refine AL.r (rd_nilc_bx rfl rfl rfl) ?_
  refine AL.r (rd_faddr_bx rfl fo_99_8 rfl rfl ⟨_, _, rfl⟩) ?_
  refine AL.r (rd_load_bx rfl ag_4 rfl rfl rfl) ?_
  refine AL.nil ?_
  change AW _ _ _ _ _
  refine AW.cd rfl (fun h16 => ?_) (fun h16 => ?_)
  ·skip
   refine AW.seq ?_
   refine AW.region ?_
   refine AL.ra ?_
   refine AL.nil ?_
   change AW _ _ _ _ _
   refine AW.ret ?_
   repeat with_reducible first | refine thenA_ret ?_ | refine inBlockA_ret ?_
   with_reducible first | refine retO_ret ?_ | refine retO_normal ?_
   refine reso1D rfl (ResV.tmp rfl) rfl ?_
   first | exact lfD (app_dark (b := b) (i := 0) h16) | exact lfD (app_full (i := 0) h16 h21) | exact lfD (app_go (i := 0) h16 h21 h27 h70) | exact lfD (app_no (i := 0) h16 h21 h27 h70)
  ·skip
   refine AW.skip ?_
   change AW _ _ _ _ _
   refine AW.seq ?_
   refine AW.seq ?_
   refine AW.region ?_
   refine AL.rm ?_
   refine AL.r (rd_len_sl rfl el_29 rfl) ?_
   refine AL.rm ?_
   refine AL.op rfl (calloD (left_c d g g1 g2 g3 g4 g5 g6 g7 g8 g9 h.room h.n) [0, 1, 2, 3, 4, 5, 6, 7, 8, 9] ?_)
   rintro y os' ⟨rfl, rfl⟩
   refine AL.noD ?_
   refine AL.r (rd_bin rfl rfl rfl (fun _ => rfl)) ?_
   refine AL.nil ?_
   change AW _ _ _ _ _
   refine AW.cd rfl (fun h21 => ?_) (fun h21 => ?_)
   ·skip
    refine AW.seq ?_
    refine AW.region ?_
    refine AL.ra ?_
    refine AL.nil ?_
    change AW _ _ _ _ _
    refine AW.ret ?_
    repeat with_reducible first | refine thenA_ret ?_ | refine inBlockA_ret ?_
    with_reducible first | refine retO_ret ?_ | refine retO_normal ?_
    refine reso1D rfl (ResV.tmp rfl) rfl ?_
    first | exact lfD (app_dark (b := b) (i := 0) h16) | exact lfD (app_full (i := 0) h16 h21) | exact lfD (app_go (i := 0) h16 h21 h27 h70) | exact lfD (app_no (i := 0) h16 h21 h27 h70)
   ·skip
    refine AW.skip ?_
    change AW _ _ _ _ _
    refine AW.seq ?_
    refine AW.region ?_
    refine AL.rm ?_
    refine AL.rm ?_
    refine AL.r (rd_len_sl rfl el_29 rfl) ?_
    refine AL.op rfl (calloD (burn_c d g g1 g2 g3 g4 g5 g6 g7 g8 g9 (b.length : Int) h.fuse (by omega)) [0, 1, 2, 3, 4, 5, 6, 7, 8, 9] ?_)
    rintro y os' ⟨rfl, rfl⟩
    refine AL.noD ?_
    refine AL.ra ?_
    refine AL.nil ?_
    change AW _ _ _ _ _
    refine AW.seq ?_
    refine AW.seq ?_
    refine AW.region ?_
    refine AL.rm ?_
    refine AL.r (rd_bin rfl rfl rfl (fun _ => rfl)) ?_
    refine AL.nil ?_
    change AW _ _ _ _ _
    refine AW.cd rfl (fun h27 => ?_) (fun h27 => ?_)
    ·skip
     refine AW.seq ?_
     apply AW.drawS (by kernel_rfl)
     ·skip
      refine ADA.r 0 rfl (ARdP.a (rdP_move rfl rfl)) rfl ?_
      refine ADA.r 1 rfl (ARdP.a (rdP_move rfl rfl)) rfl ?_
      refine ADA.r 2 rfl (ARdP.a (rdP_move rfl rfl)) rfl ?_
      refine ADA.r 3 rfl (ARdP.a (rdP_move rfl rfl)) rfl ?_
      refine ADA.r 4 rfl (ARdP.a (rdP_nilc_bx rfl rfl rfl)) rfl ?_
      refine ADA.r 5 rfl (ARdP.a (rdP_faddr_bx rfl fo_99_1 rfl rfl ⟨_, _, rfl⟩)) rfl ?_
      refine ADA.r 6 rfl (ARdP.a (rdP_iaddr_bx_ 0 rfl ar_37 rfl rfl rfl)) rfl ?_
      refine ADA.r 8 rfl (ARdP.a (rdP_move rfl rfl)) rfl ?_
      refine ADA.r 9 rfl (ARdP.a (rdP_move rfl rfl)) rfl ?_
      refine ADA.r 10 rfl (ARdP.a (rdP_slice_sl rfl el_29 rfl byA_one rfl ⟨_, _, rfl, (Int.toNat_of_nonneg (by omega)).symm⟩ (by omega) (by simp only [byA_len]; omega))) rfl ?_
      refine ADA.r 12 rfl (ARdP.a (rdP_nilc_bx rfl rfl rfl)) rfl ?_
      refine ADA.r 13 rfl (ARdP.a (rdP_faddr_bx rfl fo_99_1 rfl rfl ⟨_, _, rfl⟩)) rfl ?_
      refine ADA.b ?_
      refine ADB.mv 7 rfl (AOpB.op (ARd.opB (rd_load_bx rfl ag_29 rfl rfl rfl) ?_))
      refine ADB.n ?_
      refine ADB.mv 11 rfl (op_appendM rfl ap_29 rfl rfl (src_s rfl) (by simp only [byA_len, burnD, List.length_drop, List.length_take]; omega) (by simp only [byA_len, burnD, List.length_drop, List.length_take]; omega) ?_)
      refine ADB.n ?_
      refine ADB.r 14 rfl (rdP_iaddr_bx_ 0 rfl ar_37 rfl rfl rfl) rfl ?_
      refine ADB.mv 15 rfl (op_storo rfl rfl rfl rfl rfl sz_29 ?_)
      refine ADB.n ?_
      refine ADB.done (by kernel_rfl) ?_
      exact ⟨rfl, rfl⟩
     skip
     change AW _ _ _ _ _
     refine AW.seq ?_
     apply AW.drawS (by kernel_rfl)
     ·skip
      refine ADA.r 0 rfl (ARdP.a (rdP_move rfl rfl)) rfl ?_
      refine ADA.r 1 rfl (ARdP.a (rdP_move rfl rfl)) rfl ?_
      refine ADA.r 2 rfl (ARdP.a (rdP_nilc_bx rfl rfl rfl)) rfl ?_
      refine ADA.r 3 rfl (ARdP.a (rdP_faddr_bx rfl fo_99_3 rfl rfl ⟨_, _, rfl⟩)) rfl ?_
      refine ADA.r 5 rfl (ARdP.a (rdP_move rfl rfl)) rfl ?_
      refine ADA.r 7 rfl (ARdP.a (rdP_move rfl rfl)) rfl ?_
      refine ADA.r 8 rfl (ARdP.a (rdP_move rfl rfl)) rfl ?_
      refine ADA.r 9 rfl (ARdP.a (rdP_slice_sl rfl el_29 rfl byA_one rfl ⟨_, _, rfl, (Int.toNat_of_nonneg (by omega)).symm⟩ (by omega) (by simp only [byA_len]; omega))) rfl ?_
      refine ADA.b ?_
      refine ADB.all (is := [4, 6]) (by kernel_rfl) (by simp) ?_
      intro i hi
      simp only [List.mem_cons, List.not_mem_nil, or_false] at hi
      rcases hi with rfl | rfl
      ·skip
       refine ⟨_, rfl, rfl, AOpB.op (ARd.opB (rd_load_bx rfl ag_97 rfl rfl rfl) ?_)⟩
       refine ADB.n ?_
       refine ADB.mv 6 rfl (AOpB.op (bs_own 11 rfl ap_29 ze_5 rfl rfl rfl ?_))
       refine ADB.n ?_
       refine ADB.mv 10 rfl (op_append rfl ap_29 rfl rfl (src_s rfl) (by simp [byA_len]; omega) (by simp [byA_len]; omega) ?_)
       refine ADB.n ?_
       refine ADB.settle 53 rfl rfl (by first | rfl | exact cont_owM _ _ _ _) ?_
       refine ADB.n ?_
       refine ADB.r 11 rfl (rdP_build rfl pl_102 ze_102 rfl rfl) rfl ?_
       refine ADB.mv 12 rfl (AOpB.op (bs_set rfl ap_97 ze_102 rfl rfl ?_))
       refine ADB.n ?_
       refine ADB.mv 13 rfl (op_appendM rfl ap_97 rfl rfl (src_s rfl) (by simp [burnD]; omega) (by simp [burnD]; omega) ?_)
       refine ADB.n ?_
       refine ADB.r 14 rfl (rdP_nilc_bx rfl rfl rfl) rfl ?_
       refine ADB.r 15 rfl (rdP_faddr_bx rfl fo_99_3 rfl rfl ⟨_, _, rfl⟩) rfl ?_
       refine ADB.mv 16 rfl (op_storo rfl rfl rfl rfl rfl sz_97 ?_)
       refine ADB.n ?_
       refine ADB.done (by kernel_rfl) ?_
       exact ⟨rfl, rfl⟩
      ·skip
       refine ⟨_, rfl, rfl, AOpB.op (bs_own 11 rfl ap_29 ze_5 rfl rfl rfl ?_)⟩
       refine ADB.n ?_
       refine ADB.all (is := [4, 10]) (by kernel_rfl) (by simp) ?_
       intro i hi
       simp only [List.mem_cons, List.not_mem_nil, or_false] at hi
       rcases hi with rfl | rfl
       ·skip
        refine ⟨_, rfl, rfl, AOpB.op (ARd.opB (rd_load_bx rfl ag_97 rfl rfl rfl) ?_)⟩
        refine ADB.n ?_
        refine ADB.mv 10 rfl (op_append rfl ap_29 rfl rfl (src_s rfl) (by simp [byA_len]; omega) (by simp [byA_len]; omega) ?_)
        refine ADB.n ?_
        refine ADB.settle 53 rfl rfl (by first | rfl | exact cont_owM _ _ _ _) ?_
        refine ADB.n ?_
        refine ADB.r 11 rfl (rdP_build rfl pl_102 ze_102 rfl rfl) rfl ?_
        refine ADB.mv 12 rfl (AOpB.op (bs_set rfl ap_97 ze_102 rfl rfl ?_))
        refine ADB.n ?_
        refine ADB.mv 13 rfl (op_appendM rfl ap_97 rfl rfl (src_s rfl) (by simp [burnD]; omega) (by simp [burnD]; omega) ?_)
        refine ADB.n ?_
        refine ADB.r 14 rfl (rdP_nilc_bx rfl rfl rfl) rfl ?_
        refine ADB.r 15 rfl (rdP_faddr_bx rfl fo_99_3 rfl rfl ⟨_, _, rfl⟩) rfl ?_
        refine ADB.mv 16 rfl (op_storo rfl rfl rfl rfl rfl sz_97 ?_)
        refine ADB.n ?_
        refine ADB.done (by kernel_rfl) ?_
        exact ⟨rfl, rfl⟩
       ·skip
        refine ⟨_, rfl, rfl, op_append rfl ap_29 rfl rfl (src_s rfl) (by simp [byA_len]; omega) (by simp [byA_len]; omega) ?_⟩
        refine ADB.n ?_
        refine ADB.settle 53 rfl rfl (by first | rfl | exact cont_owM _ _ _ _) ?_
        refine ADB.n ?_
        refine ADB.r 11 rfl (rdP_build rfl pl_102 ze_102 rfl rfl) rfl ?_
        refine ADB.all (is := [4, 12]) (by kernel_rfl) (by simp) ?_
        intro i hi
        simp only [List.mem_cons, List.not_mem_nil, or_false] at hi
        rcases hi with rfl | rfl
        ·skip
         refine ⟨_, rfl, rfl, AOpB.op (ARd.opB (rd_load_bx rfl ag_97 rfl rfl rfl) ?_)⟩
         refine ADB.n ?_
         refine ADB.mv 12 rfl (AOpB.op (bs_set rfl ap_97 ze_102 rfl rfl ?_))
         refine ADB.n ?_
         refine ADB.mv 13 rfl (op_appendM rfl ap_97 rfl rfl (src_s rfl) (by simp [burnD]; omega) (by simp [burnD]; omega) ?_)
         refine ADB.n ?_
         refine ADB.r 14 rfl (rdP_nilc_bx rfl rfl rfl) rfl ?_
         refine ADB.r 15 rfl (rdP_faddr_bx rfl fo_99_3 rfl rfl ⟨_, _, rfl⟩) rfl ?_
         refine ADB.mv 16 rfl (op_storo rfl rfl rfl rfl rfl sz_97 ?_)
         refine ADB.n ?_
         refine ADB.done (by kernel_rfl) ?_
         exact ⟨rfl, rfl⟩
        ·skip
         refine ⟨_, rfl, rfl, AOpB.op (bs_set rfl ap_97 ze_102 rfl rfl ?_)⟩
         refine ADB.n ?_
         refine ADB.mv 4 rfl (AOpB.op (ARd.opB (rd_load_bx rfl ag_97 rfl rfl rfl) ?_))
         refine ADB.n ?_
         refine ADB.mv 13 rfl (op_appendM rfl ap_97 rfl rfl (src_s rfl) (by simp [burnD]; omega) (by simp [burnD]; omega) ?_)
         refine ADB.n ?_
         refine ADB.r 14 rfl (rdP_nilc_bx rfl rfl rfl) rfl ?_
         refine ADB.r 15 rfl (rdP_faddr_bx rfl fo_99_3 rfl rfl ⟨_, _, rfl⟩) rfl ?_
         refine ADB.mv 16 rfl (op_storo rfl rfl rfl rfl rfl sz_97 ?_)
         refine ADB.n ?_
         refine ADB.done (by kernel_rfl) ?_
         exact ⟨rfl, rfl⟩
     skip
     change AW _ _ _ _ _
     refine AW.region ?_
     refine AL.rm ?_
     refine AL.r (rd_nilc_bx rfl rfl rfl) ?_
     refine AL.r (rd_faddr_bx rfl fo_99_4 rfl rfl ⟨_, _, rfl⟩) ?_
     refine AL.r (rd_load_bx rfl ag_3 rfl rfl rfl) ?_
     refine AL.rm ?_
     refine AL.r (rd_arith_add rfl rfl rfl (IntWalk.i64_in _ (by simp only [burnD]; omega))) ?_
     refine AL.r (rd_nilc_bx rfl rfl rfl) ?_
     refine AL.r (rd_faddr_bx rfl fo_99_4 rfl rfl ⟨_, _, rfl⟩) ?_
     refine AL.op rfl (op_store_ rfl rfl rfl rfl rfl sz_3 ?_)
     refine AL.no ?_
     refine AL.nil ?_
     change AW _ _ _ _ _
     refine AW.seq ?_
     refine AW.seq ?_
     refine AW.region ?_
     refine AL.rm ?_
     refine AL.r (rd_nilc_bx rfl rfl rfl) ?_
     refine AL.r (rd_faddr_bx rfl fo_99_8 rfl rfl ⟨_, _, rfl⟩) ?_
     refine AL.r (rd_load_bx rfl ag_4 rfl rfl rfl) ?_
     refine AL.nil ?_
     change AW _ _ _ _ _
     refine AW.cd rfl (fun h70 => ?_) (fun h70 => ?_)
     ·skip
      refine AW.seq ?_
      refine AW.region ?_
      refine AL.ra ?_
      refine AL.nil ?_
      change AW _ _ _ _ _
      refine AW.ret ?_
      repeat with_reducible first | refine thenA_ret ?_ | refine inBlockA_ret ?_
      with_reducible first | refine retO_ret ?_ | refine retO_normal ?_
      refine reso1D rfl (ResV.tmp rfl) rfl ?_
      first | exact lfD (app_dark (b := b) (i := 0) h16) | exact lfD (app_full (i := 0) h16 h21) | exact lfD (app_go (i := 0) h16 h21 h27 h70) | exact lfD (app_no (i := 0) h16 h21 h27 h70)
     ·skip
      refine AW.skip ?_
      change AW _ _ _ _ _
      refine AW.seq ?_
      refine AW.region ?_
      refine AL.ra ?_
      refine AL.nil ?_
      change AW _ _ _ _ _
      refine AW.ret ?_
      repeat with_reducible first | refine thenA_ret ?_ | refine inBlockA_ret ?_
      with_reducible first | refine retO_ret ?_ | refine retO_normal ?_
      refine reso1D rfl (ResV.tmp rfl) rfl ?_
      first | exact lfD (app_dark (b := b) (i := 0) h16) | exact lfD (app_full (i := 0) h16 h21) | exact lfD (app_go (i := 0) h16 h21 h27 h70) | exact lfD (app_no (i := 0) h16 h21 h27 h70)
    ·skip
     refine AW.skip ?_
     change AW _ _ _ _ _
     refine AW.seq ?_
     refine AW.seq ?_
     refine AW.region ?_
     refine AL.rm ?_
     refine AL.r (rd_nilc_bx rfl rfl rfl) ?_
     refine AL.r (rd_faddr_bx rfl fo_99_8 rfl rfl ⟨_, _, rfl⟩) ?_
     refine AL.r (rd_load_bx rfl ag_4 rfl rfl rfl) ?_
     refine AL.nil ?_
     change AW _ _ _ _ _
     refine AW.cd rfl (fun h70 => ?_) (fun h70 => ?_)
     ·skip
      refine AW.seq ?_
      refine AW.region ?_
      refine AL.ra ?_
      refine AL.nil ?_
      change AW _ _ _ _ _
      refine AW.ret ?_
      repeat with_reducible first | refine thenA_ret ?_ | refine inBlockA_ret ?_
      with_reducible first | refine retO_ret ?_ | refine retO_normal ?_
      refine reso1D rfl (ResV.tmp rfl) rfl ?_
      first | exact lfD (app_dark (b := b) (i := 0) h16) | exact lfD (app_full (i := 0) h16 h21) | exact lfD (app_go (i := 0) h16 h21 h27 h70) | exact lfD (app_no (i := 0) h16 h21 h27 h70)
     ·skip
      refine AW.skip ?_
      change AW _ _ _ _ _
      refine AW.seq ?_
      refine AW.region ?_
      refine AL.ra ?_
      refine AL.nil ?_
      change AW _ _ _ _ _
      refine AW.ret ?_
      repeat with_reducible first | refine thenA_ret ?_ | refine inBlockA_ret ?_
      with_reducible first | refine retO_ret ?_ | refine retO_normal ?_
      refine reso1D rfl (ResV.tmp rfl) rfl ?_
      first | exact lfD (app_dark (b := b) (i := 0) h16) | exact lfD (app_full (i := 0) h16 h21) | exact lfD (app_go (i := 0) h16 h21 h27 h70) | exact lfD (app_no (i := 0) h16 h21 h27 h70)
theorem cut_c0 (n : Int) (h : d.Fit) : ACo Try.prog 26 [.bx 0 g 0, .sc (.int .i64 0), .sc (.int .i64 n)] (diskT g g1 g2 g3 g4 g5 g6 g7 g8 g9 d)
    (fun y os' => y = .sc (.int .i64 (cutR d 0 n)) ∧ DiskAt g (cutD d 0 n) os') := by
  have hbn := burnN_le (n := 1) h (by omega)
  have hw := h.w
  have hnn := h.n 0
  have hqq := h.q
  refine ACo.of' (st0 := [⟨g, .box 99 [.sc (.int .i64 d.room), .ow 1 g1, .ow 2 g2, .ow 3 g3, .ow 4 g4, .ow 5 g5, .ow 6 g6, .ow 7 g7, .ow 8 g8, .ow 9 g9, .sc (.int .i64 d.waits), .sc (.int .i64 d.done), .sc (.bool d.fused), .sc (.int .i64 d.fuse), .sc (.bool d.dark)]⟩, ⟨g1, owM (d.nf 0) 5 1 (byA (d.n 0))⟩, ⟨g2, owM (d.nf 1) 5 1 (byA (d.n 1))⟩, ⟨g3, owM (d.nf 2) 5 1 (byA (d.n 2))⟩, ⟨g4, owM (d.nf 3) 5 1 (byA (d.n 3))⟩, ⟨g5, owM (d.lf 0) 5 1 (byA (d.l 0))⟩, ⟨g6, owM (d.lf 1) 5 1 (byA (d.l 1))⟩, ⟨g7, owM (d.lf 2) 5 1 (byA (d.l 2))⟩, ⟨g8, owM (d.lf 3) 5 1 (byA (d.l 3))⟩, ⟨g9, owM true 102 4 (d.q.map DeedD.cs)⟩, TK.mk 0 .off, TK.mk 0 .off]) 65 2 Try.func26 rfl 10 ?_
  refine AW.seq ?_
  refine AW.region ?_
  refine AL.ra ?_
  refine AL.nil ?_
  change AW _ _ _ _ _
  refine AW.seq ?_
  refine AW.seq ?_
  refine AW.region ?_
  refine AL.rm ?_
  refine AL.r (rd_peq_bx rfl pt_25 rfl rfl rfl) ?_
  refine AL.nil ?_
  change AW _ _ _ _ _
  refine AW.cond_f rfl ?_
  refine AW.skip ?_
  change AW _ _ _ _ _
  refine AW.seq ?_
  refine AW.seq ?_
  refine AW.region ?_
  refine AL.rm ?_
  refine AL.op rfl (AOpB.op (op_call (right_in (by decide)) rfl (by kernel_rfl) rfl (none) ?_))
  rintro r rfl
  refine AL.no ?_
  refine AL.r (rd_un rfl rfl (fun _ => rfl)) ?_
  refine AL.rm ?_
  refine AL.ro (rd_move rfl rfl) ?_
  refine AL.ro (rd_bin rfl rfl rfl (fun _ => rfl)) ?_
  refine AL.r (rd_pick_f rfl rfl rfl) ?_
  refine AL.rm ?_
  refine AL.fk (d := 16) rfl (fun h16 => ?_) (fun h16 => ?_)
  ·skip
   refine AL.n ?_
   refine AL.rf ?_
   refine AL.rf ?_
   refine AL.rf ?_
   refine AL.rf ?_
   refine AL.rf ?_
   refine AL.rf ?_
   refine AL.rf ?_
   refine AL.rf ?_
   refine AL.rf ?_
   refine AL.r (rd_pick_t rfl rfl rfl) ?_
   refine AL.nil ?_
   change AW _ _ _ _ _
   refine AW.cond_t rfl ?_
   refine AW.seq ?_
   refine AW.region ?_
   refine AL.ra ?_
   refine AL.nil ?_
   change AW _ _ _ _ _
   refine AW.ret ?_
   repeat with_reducible first | refine thenA_ret ?_ | refine inBlockA_ret ?_
   with_reducible first | refine retO_ret ?_ | refine retO_normal ?_
   refine reso1D rfl (ResV.tmp rfl) rfl ?_
   first | exact lfD (cut_arg (d := d) (i := 0) (.inl h16)) | exact lfD (cut_arg (d := d) (i := 0) (.inr h26)) | exact lfD (cut_dark (d := d) (i := 0) h16 h26 h31) | exact lfD (cut_burn (d := d) (i := 0) h16 h26 h31 h35) | exact lfD (cut_go (d := d) (i := 0) h16 h26 h31 h35)
  ·skip
   refine AL.n ?_
   refine AL.ro (rd_move rfl rfl) ?_
   refine AL.ro (rd_move rfl rfl) ?_
   refine AL.ro (rd_move rfl rfl) ?_
   refine AL.ro (rd_nilc_bx rfl rfl rfl) ?_
   refine AL.ro (rd_faddr_bx rfl fo_99_1 rfl rfl ⟨_, _, rfl⟩) ?_
   refine AL.ro (rd_iaddr_bx_ 0 rfl ar_37 rfl rfl rfl) ?_
   refine AL.ro (rd_load_bx rfl ag_29 rfl rfl rfl) ?_
   refine AL.ro (rd_len_owM rfl el_29 rfl rfl) ?_
   refine AL.ro (rd_bin rfl rfl rfl (fun _ => rfl)) ?_
   refine AL.r (rd_pick_f rfl rfl rfl) ?_
   refine AL.nil ?_
   change AW _ _ _ _ _
   refine AW.cd rfl (fun h26 => ?_) (fun h26 => ?_)
   ·skip
    refine AW.seq ?_
    refine AW.region ?_
    refine AL.ra ?_
    refine AL.nil ?_
    change AW _ _ _ _ _
    refine AW.ret ?_
    repeat with_reducible first | refine thenA_ret ?_ | refine inBlockA_ret ?_
    with_reducible first | refine retO_ret ?_ | refine retO_normal ?_
    refine reso1D rfl (ResV.tmp rfl) rfl ?_
    first | exact lfD (cut_arg (d := d) (i := 0) (.inl h16)) | exact lfD (cut_arg (d := d) (i := 0) (.inr h26)) | exact lfD (cut_dark (d := d) (i := 0) h16 h26 h31) | exact lfD (cut_burn (d := d) (i := 0) h16 h26 h31 h35) | exact lfD (cut_go (d := d) (i := 0) h16 h26 h31 h35)
   ·skip
    refine AW.skip ?_
    change AW _ _ _ _ _
    refine AW.seq ?_
    refine AW.seq ?_
    refine AW.region ?_
    obtain ⟨m, rfl⟩ : ∃ m : Nat, n = (m : Int) := ⟨n.toNat, (by omega)⟩
    refine AL.rm ?_
    refine AL.r (rd_nilc_bx rfl rfl rfl) ?_
    refine AL.r (rd_faddr_bx rfl fo_99_8 rfl rfl ⟨_, _, rfl⟩) ?_
    refine AL.r (rd_load_bx rfl ag_4 rfl rfl rfl) ?_
    refine AL.rm ?_
    refine AL.fk (d := 31) rfl (fun h31 => ?_) (fun h31 => ?_)
    ·skip
     refine AL.n ?_
     refine AL.rf ?_
     refine AL.rf ?_
     refine AL.rf ?_
     refine AL.r (rd_pick_t rfl rfl rfl) ?_
     refine AL.nil ?_
     change AW _ _ _ _ _
     refine AW.cond_t rfl ?_
     refine AW.seq ?_
     refine AW.region ?_
     refine AL.ra ?_
     refine AL.nil ?_
     change AW _ _ _ _ _
     refine AW.ret ?_
     repeat with_reducible first | refine thenA_ret ?_ | refine inBlockA_ret ?_
     with_reducible first | refine retO_ret ?_ | refine retO_normal ?_
     refine reso1D rfl (ResV.tmp rfl) rfl ?_
     first | exact lfD (cut_arg (d := d) (i := 0) (.inl h16)) | exact lfD (cut_arg (d := d) (i := 0) (.inr h26)) | exact lfD (cut_dark (d := d) (i := 0) h16 h26 h31) | exact lfD (cut_burn (d := d) (i := 0) h16 h26 h31 h35) | exact lfD (cut_go (d := d) (i := 0) h16 h26 h31 h35)
    ·skip
     refine AL.n ?_
     refine AL.ro (rd_move rfl rfl) ?_
     refine AL.on rfl rfl rfl (calloD (burn_c d g g1 g2 g3 g4 g5 g6 g7 g8 g9 1 h.fuse (by omega)) [0, 1, 2, 3, 4, 5, 6, 7, 8, 9] ?_)
     rintro y os' ⟨rfl, rfl⟩
     refine AL.noD ?_
     refine AL.ro (rd_bin rfl rfl rfl (fun _ => rfl)) ?_
     refine AL.r (rd_pick_f rfl rfl rfl) ?_
     refine AL.nil ?_
     change AW _ _ _ _ _
     refine AW.cd rfl (fun h35 => ?_) (fun h35 => ?_)
     ·skip
      refine AW.seq ?_
      refine AW.region ?_
      refine AL.ra ?_
      refine AL.nil ?_
      change AW _ _ _ _ _
      refine AW.ret ?_
      repeat with_reducible first | refine thenA_ret ?_ | refine inBlockA_ret ?_
      with_reducible first | refine retO_ret ?_ | refine retO_normal ?_
      refine reso1D rfl (ResV.tmp rfl) rfl ?_
      first | exact lfD (cut_arg (d := d) (i := 0) (.inl h16)) | exact lfD (cut_arg (d := d) (i := 0) (.inr h26)) | exact lfD (cut_dark (d := d) (i := 0) h16 h26 h31) | exact lfD (cut_burn (d := d) (i := 0) h16 h26 h31 h35) | exact lfD (cut_go (d := d) (i := 0) h16 h26 h31 h35)
     ·skip
      refine AW.skip ?_
      change AW _ _ _ _ _
      refine AW.seq ?_
      apply AW.drawS (by kernel_rfl)
      ·skip
       refine ADA.r 0 rfl (ARdP.a (rdP_move rfl rfl)) rfl ?_
       refine ADA.r 1 rfl (ARdP.a (rdP_move rfl rfl)) rfl ?_
       refine ADA.r 2 rfl (ARdP.a (rdP_move rfl rfl)) rfl ?_
       refine ADA.r 3 rfl (ARdP.a (rdP_move rfl rfl)) rfl ?_
       refine ADA.r 4 rfl (ARdP.a (rdP_nilc_bx rfl rfl rfl)) rfl ?_
       refine ADA.r 5 rfl (ARdP.a (rdP_faddr_bx rfl fo_99_1 rfl rfl ⟨_, _, rfl⟩)) rfl ?_
       refine ADA.r 6 rfl (ARdP.a (rdP_iaddr_bx_ 0 rfl ar_37 rfl rfl rfl)) rfl ?_
       refine ADA.r 8 rfl (ARdP.a (rdP_move rfl rfl)) rfl ?_
       refine ADA.r 10 rfl (ARdP.a (rdP_nilc_bx rfl rfl rfl)) rfl ?_
       refine ADA.r 11 rfl (ARdP.a (rdP_faddr_bx rfl fo_99_1 rfl rfl ⟨_, _, rfl⟩)) rfl ?_
       refine ADA.b ?_
       refine ADB.mv 7 rfl (AOpB.op (ARd.opB (rd_load_bx rfl ag_29 rfl rfl rfl) ?_))
       refine ADB.n ?_
       refine ADB.mv 9 rfl (AOpB.op (op_sliceM (n := m) rfl el_29 rfl rfl rfl rfl (by simp only [byA_len, burnD]; omega) ?_))
       refine ADB.n ?_
       refine ADB.r 12 rfl (rdP_iaddr_bx_ 0 rfl ar_37 rfl rfl rfl) rfl ?_
       refine ADB.mv 13 rfl (op_storo rfl rfl rfl rfl rfl sz_29 ?_)
       refine ADB.n ?_
       refine ADB.done (by kernel_rfl) ?_
       exact ⟨rfl, rfl⟩
      skip
      change AW _ _ _ _ _
      refine AW.seq ?_
      refine AW.region ?_
      refine AL.rm ?_
      refine AL.rm ?_
      refine AL.r (rd_nilc_bx rfl rfl rfl) ?_
      refine AL.r (rd_faddr_bx rfl fo_99_3 rfl rfl ⟨_, _, rfl⟩) ?_
      refine AL.r (rd_load_bx rfl ag_97 rfl rfl rfl) ?_
      refine AL.rm ?_
      refine AL.rm ?_
      refine AL.r (rd_build rfl pl_102 ze_102 rfl rfl) ?_
      refine AL.op rfl (AOpB.op (bs_set rfl ap_97 ze_102 rfl rfl ?_))
      refine AL.no ?_
      refine AL.op rfl (op_appendM rfl ap_97 rfl rfl (src_s rfl) (by simp [burnD]; omega) (by simp [burnD]; omega) ?_)
      refine AL.no ?_
      refine AL.r (rd_nilc_bx rfl rfl rfl) ?_
      refine AL.r (rd_faddr_bx rfl fo_99_3 rfl rfl ⟨_, _, rfl⟩) ?_
      refine AL.op rfl (op_storo rfl rfl rfl rfl rfl sz_97 ?_)
      refine AL.no ?_
      refine AL.nil ?_
      change AW _ _ _ _ _
      refine AW.seq ?_
      refine AW.region ?_
      refine AL.rm ?_
      refine AL.r (rd_nilc_bx rfl rfl rfl) ?_
      refine AL.r (rd_faddr_bx rfl fo_99_4 rfl rfl ⟨_, _, rfl⟩) ?_
      refine AL.r (rd_load_bx rfl ag_3 rfl rfl rfl) ?_
      refine AL.r (rd_arith_add rfl rfl rfl (IntWalk.i64_in _ (by simp only [burnD]; omega))) ?_
      refine AL.r (rd_nilc_bx rfl rfl rfl) ?_
      refine AL.r (rd_faddr_bx rfl fo_99_4 rfl rfl ⟨_, _, rfl⟩) ?_
      refine AL.op rfl (op_store_ rfl rfl rfl rfl rfl sz_3 ?_)
      refine AL.no ?_
      refine AL.nil ?_
      change AW _ _ _ _ _
      refine AW.seq ?_
      refine AW.region ?_
      refine AL.ra ?_
      refine AL.nil ?_
      change AW _ _ _ _ _
      refine AW.ret ?_
      repeat with_reducible first | refine thenA_ret ?_ | refine inBlockA_ret ?_
      with_reducible first | refine retO_ret ?_ | refine retO_normal ?_
      refine reso1D rfl (ResV.tmp rfl) rfl ?_
      first | exact lfD (cut_arg (d := d) (i := 0) (.inl h16)) | exact lfD (cut_arg (d := d) (i := 0) (.inr h26)) | exact lfD (cut_dark (d := d) (i := 0) h16 h26 h31) | exact lfD (cut_burn (d := d) (i := 0) h16 h26 h31 h35) | exact lfD (cut_go (d := d) (i := 0) h16 h26 h31 h35)
theorem append_c1 (b : List UInt8) (h : d.Fit) (hb : b.length ≤ 1099511627776) : ACo Try.prog 19 [.bx 0 g 0, .sc (.int .i64 1), .sl (byA b)] (diskT g g1 g2 g3 g4 g5 g6 g7 g8 g9 d)
    (fun y os' => y = .sc (.int .i64 (appR d b)) ∧ DiskAt g (appD d 1 b) os') := by
  have hbn := burnN_le (n := b.length) h (by omega)
  have hw := h.w
  have hnn := h.n 1
  have hqq := h.q
  refine ACo.of' (st0 := [⟨g, .box 99 [.sc (.int .i64 d.room), .ow 1 g1, .ow 2 g2, .ow 3 g3, .ow 4 g4, .ow 5 g5, .ow 6 g6, .ow 7 g7, .ow 8 g8, .ow 9 g9, .sc (.int .i64 d.waits), .sc (.int .i64 d.done), .sc (.bool d.fused), .sc (.int .i64 d.fuse), .sc (.bool d.dark)]⟩, ⟨g1, owM (d.nf 0) 5 1 (byA (d.n 0))⟩, ⟨g2, owM (d.nf 1) 5 1 (byA (d.n 1))⟩, ⟨g3, owM (d.nf 2) 5 1 (byA (d.n 2))⟩, ⟨g4, owM (d.nf 3) 5 1 (byA (d.n 3))⟩, ⟨g5, owM (d.lf 0) 5 1 (byA (d.l 0))⟩, ⟨g6, owM (d.lf 1) 5 1 (byA (d.l 1))⟩, ⟨g7, owM (d.lf 2) 5 1 (byA (d.l 2))⟩, ⟨g8, owM (d.lf 3) 5 1 (byA (d.l 3))⟩, ⟨g9, owM true 102 4 (d.q.map DeedD.cs)⟩, TK.mk 0 .off, TK.mk 0 .off, TK.mk 0 .off, TK.mk 0 .off, TK.mk 0 .off]) 68 5 Try.func19 rfl 10 ?_
  refine AW.seq ?_
  refine AW.region ?_
  refine AL.ra ?_
  refine AL.nil ?_
  change AW _ _ _ _ _
  refine AW.seq ?_
  refine AW.seq ?_
  refine AW.region ?_
  refine AL.rm ?_
  refine AL.r (rd_peq_bx rfl pt_25 rfl rfl rfl) ?_
  refine AL.nil ?_
  change AW _ _ _ _ _
  refine AW.cond_f rfl ?_
  refine AW.skip ?_
  change AW _ _ _ _ _
  refine AW.seq ?_
  refine AW.seq ?_
  refine AW.region ?_
  refine AL.rm ?_
  refine AL.op rfl (AOpB.op (op_call (right_in (by decide)) rfl (by kernel_rfl) rfl (none) ?_))
  rintro r rfl
  refine AL.no ?_
  refine AL.r (rd_un rfl rfl (fun _ => rfl)) ?_
  refine AL.nil ?_
  change AW _ _ _ _ _
  refine AW.cond_f rfl ?_
  refine AW.skip ?_
  change AW _ _ _ _ _
  refine AW.seq ?_
  refine AW.seq ?_
  refine AW.region ?_
  refine AL.rm ?_
  refine AL.r (rd_nilc_bx rfl rfl rfl) ?_
  refine AL.r (rd_faddr_bx rfl fo_99_8 rfl rfl ⟨_, _, rfl⟩) ?_
  refine AL.r (rd_load_bx rfl ag_4 rfl rfl rfl) ?_
  refine AL.nil ?_
  change AW _ _ _ _ _
  refine AW.cd rfl (fun h16 => ?_) (fun h16 => ?_)
  ·skip
   refine AW.seq ?_
   refine AW.region ?_
   refine AL.ra ?_
   refine AL.nil ?_
   change AW _ _ _ _ _
   refine AW.ret ?_
   repeat with_reducible first | refine thenA_ret ?_ | refine inBlockA_ret ?_
   with_reducible first | refine retO_ret ?_ | refine retO_normal ?_
   refine reso1D rfl (ResV.tmp rfl) rfl ?_
   first | exact lfD (app_dark (b := b) (i := 1) h16) | exact lfD (app_full (i := 1) h16 h21) | exact lfD (app_go (i := 1) h16 h21 h27 h70) | exact lfD (app_no (i := 1) h16 h21 h27 h70)
  ·skip
   refine AW.skip ?_
   change AW _ _ _ _ _
   refine AW.seq ?_
   refine AW.seq ?_
   refine AW.region ?_
   refine AL.rm ?_
   refine AL.r (rd_len_sl rfl el_29 rfl) ?_
   refine AL.rm ?_
   refine AL.op rfl (calloD (left_c d g g1 g2 g3 g4 g5 g6 g7 g8 g9 h.room h.n) [0, 1, 2, 3, 4, 5, 6, 7, 8, 9] ?_)
   rintro y os' ⟨rfl, rfl⟩
   refine AL.noD ?_
   refine AL.r (rd_bin rfl rfl rfl (fun _ => rfl)) ?_
   refine AL.nil ?_
   change AW _ _ _ _ _
   refine AW.cd rfl (fun h21 => ?_) (fun h21 => ?_)
   ·skip
    refine AW.seq ?_
    refine AW.region ?_
    refine AL.ra ?_
    refine AL.nil ?_
    change AW _ _ _ _ _
    refine AW.ret ?_
    repeat with_reducible first | refine thenA_ret ?_ | refine inBlockA_ret ?_
    with_reducible first | refine retO_ret ?_ | refine retO_normal ?_
    refine reso1D rfl (ResV.tmp rfl) rfl ?_
    first | exact lfD (app_dark (b := b) (i := 1) h16) | exact lfD (app_full (i := 1) h16 h21) | exact lfD (app_go (i := 1) h16 h21 h27 h70) | exact lfD (app_no (i := 1) h16 h21 h27 h70)
   ·skip
    refine AW.skip ?_
    change AW _ _ _ _ _
    refine AW.seq ?_
    refine AW.region ?_
    refine AL.rm ?_
    refine AL.rm ?_
    refine AL.r (rd_len_sl rfl el_29 rfl) ?_
    refine AL.op rfl (calloD (burn_c d g g1 g2 g3 g4 g5 g6 g7 g8 g9 (b.length : Int) h.fuse (by omega)) [0, 1, 2, 3, 4, 5, 6, 7, 8, 9] ?_)
    rintro y os' ⟨rfl, rfl⟩
    refine AL.noD ?_
    refine AL.ra ?_
    refine AL.nil ?_
    change AW _ _ _ _ _
    refine AW.seq ?_
    refine AW.seq ?_
    refine AW.region ?_
    refine AL.rm ?_
    refine AL.r (rd_bin rfl rfl rfl (fun _ => rfl)) ?_
    refine AL.nil ?_
    change AW _ _ _ _ _
    refine AW.cd rfl (fun h27 => ?_) (fun h27 => ?_)
    ·skip
     refine AW.seq ?_
     apply AW.drawS (by kernel_rfl)
     ·skip
      refine ADA.r 0 rfl (ARdP.a (rdP_move rfl rfl)) rfl ?_
      refine ADA.r 1 rfl (ARdP.a (rdP_move rfl rfl)) rfl ?_
      refine ADA.r 2 rfl (ARdP.a (rdP_move rfl rfl)) rfl ?_
      refine ADA.r 3 rfl (ARdP.a (rdP_move rfl rfl)) rfl ?_
      refine ADA.r 4 rfl (ARdP.a (rdP_nilc_bx rfl rfl rfl)) rfl ?_
      refine ADA.r 5 rfl (ARdP.a (rdP_faddr_bx rfl fo_99_1 rfl rfl ⟨_, _, rfl⟩)) rfl ?_
      refine ADA.r 6 rfl (ARdP.a (rdP_iaddr_bx_ 1 rfl ar_37 rfl rfl rfl)) rfl ?_
      refine ADA.r 8 rfl (ARdP.a (rdP_move rfl rfl)) rfl ?_
      refine ADA.r 9 rfl (ARdP.a (rdP_move rfl rfl)) rfl ?_
      refine ADA.r 10 rfl (ARdP.a (rdP_slice_sl rfl el_29 rfl byA_one rfl ⟨_, _, rfl, (Int.toNat_of_nonneg (by omega)).symm⟩ (by omega) (by simp only [byA_len]; omega))) rfl ?_
      refine ADA.r 12 rfl (ARdP.a (rdP_nilc_bx rfl rfl rfl)) rfl ?_
      refine ADA.r 13 rfl (ARdP.a (rdP_faddr_bx rfl fo_99_1 rfl rfl ⟨_, _, rfl⟩)) rfl ?_
      refine ADA.b ?_
      refine ADB.mv 7 rfl (AOpB.op (ARd.opB (rd_load_bx rfl ag_29 rfl rfl rfl) ?_))
      refine ADB.n ?_
      refine ADB.mv 11 rfl (op_appendM rfl ap_29 rfl rfl (src_s rfl) (by simp only [byA_len, burnD, List.length_drop, List.length_take]; omega) (by simp only [byA_len, burnD, List.length_drop, List.length_take]; omega) ?_)
      refine ADB.n ?_
      refine ADB.r 14 rfl (rdP_iaddr_bx_ 1 rfl ar_37 rfl rfl rfl) rfl ?_
      refine ADB.mv 15 rfl (op_storo rfl rfl rfl rfl rfl sz_29 ?_)
      refine ADB.n ?_
      refine ADB.done (by kernel_rfl) ?_
      exact ⟨rfl, rfl⟩
     skip
     change AW _ _ _ _ _
     refine AW.seq ?_
     apply AW.drawS (by kernel_rfl)
     ·skip
      refine ADA.r 0 rfl (ARdP.a (rdP_move rfl rfl)) rfl ?_
      refine ADA.r 1 rfl (ARdP.a (rdP_move rfl rfl)) rfl ?_
      refine ADA.r 2 rfl (ARdP.a (rdP_nilc_bx rfl rfl rfl)) rfl ?_
      refine ADA.r 3 rfl (ARdP.a (rdP_faddr_bx rfl fo_99_3 rfl rfl ⟨_, _, rfl⟩)) rfl ?_
      refine ADA.r 5 rfl (ARdP.a (rdP_move rfl rfl)) rfl ?_
      refine ADA.r 7 rfl (ARdP.a (rdP_move rfl rfl)) rfl ?_
      refine ADA.r 8 rfl (ARdP.a (rdP_move rfl rfl)) rfl ?_
      refine ADA.r 9 rfl (ARdP.a (rdP_slice_sl rfl el_29 rfl byA_one rfl ⟨_, _, rfl, (Int.toNat_of_nonneg (by omega)).symm⟩ (by omega) (by simp only [byA_len]; omega))) rfl ?_
      refine ADA.b ?_
      refine ADB.all (is := [4, 6]) (by kernel_rfl) (by simp) ?_
      intro i hi
      simp only [List.mem_cons, List.not_mem_nil, or_false] at hi
      rcases hi with rfl | rfl
      ·skip
       refine ⟨_, rfl, rfl, AOpB.op (ARd.opB (rd_load_bx rfl ag_97 rfl rfl rfl) ?_)⟩
       refine ADB.n ?_
       refine ADB.mv 6 rfl (AOpB.op (bs_own 11 rfl ap_29 ze_5 rfl rfl rfl ?_))
       refine ADB.n ?_
       refine ADB.mv 10 rfl (op_append rfl ap_29 rfl rfl (src_s rfl) (by simp [byA_len]; omega) (by simp [byA_len]; omega) ?_)
       refine ADB.n ?_
       refine ADB.settle 53 rfl rfl (by first | rfl | exact cont_owM _ _ _ _) ?_
       refine ADB.n ?_
       refine ADB.r 11 rfl (rdP_build rfl pl_102 ze_102 rfl rfl) rfl ?_
       refine ADB.mv 12 rfl (AOpB.op (bs_set rfl ap_97 ze_102 rfl rfl ?_))
       refine ADB.n ?_
       refine ADB.mv 13 rfl (op_appendM rfl ap_97 rfl rfl (src_s rfl) (by simp [burnD]; omega) (by simp [burnD]; omega) ?_)
       refine ADB.n ?_
       refine ADB.r 14 rfl (rdP_nilc_bx rfl rfl rfl) rfl ?_
       refine ADB.r 15 rfl (rdP_faddr_bx rfl fo_99_3 rfl rfl ⟨_, _, rfl⟩) rfl ?_
       refine ADB.mv 16 rfl (op_storo rfl rfl rfl rfl rfl sz_97 ?_)
       refine ADB.n ?_
       refine ADB.done (by kernel_rfl) ?_
       exact ⟨rfl, rfl⟩
      ·skip
       refine ⟨_, rfl, rfl, AOpB.op (bs_own 11 rfl ap_29 ze_5 rfl rfl rfl ?_)⟩
       refine ADB.n ?_
       refine ADB.all (is := [4, 10]) (by kernel_rfl) (by simp) ?_
       intro i hi
       simp only [List.mem_cons, List.not_mem_nil, or_false] at hi
       rcases hi with rfl | rfl
       ·skip
        refine ⟨_, rfl, rfl, AOpB.op (ARd.opB (rd_load_bx rfl ag_97 rfl rfl rfl) ?_)⟩
        refine ADB.n ?_
        refine ADB.mv 10 rfl (op_append rfl ap_29 rfl rfl (src_s rfl) (by simp [byA_len]; omega) (by simp [byA_len]; omega) ?_)
        refine ADB.n ?_
        refine ADB.settle 53 rfl rfl (by first | rfl | exact cont_owM _ _ _ _) ?_
        refine ADB.n ?_
        refine ADB.r 11 rfl (rdP_build rfl pl_102 ze_102 rfl rfl) rfl ?_
        refine ADB.mv 12 rfl (AOpB.op (bs_set rfl ap_97 ze_102 rfl rfl ?_))
        refine ADB.n ?_
        refine ADB.mv 13 rfl (op_appendM rfl ap_97 rfl rfl (src_s rfl) (by simp [burnD]; omega) (by simp [burnD]; omega) ?_)
        refine ADB.n ?_
        refine ADB.r 14 rfl (rdP_nilc_bx rfl rfl rfl) rfl ?_
        refine ADB.r 15 rfl (rdP_faddr_bx rfl fo_99_3 rfl rfl ⟨_, _, rfl⟩) rfl ?_
        refine ADB.mv 16 rfl (op_storo rfl rfl rfl rfl rfl sz_97 ?_)
        refine ADB.n ?_
        refine ADB.done (by kernel_rfl) ?_
        exact ⟨rfl, rfl⟩
       ·skip
        refine ⟨_, rfl, rfl, op_append rfl ap_29 rfl rfl (src_s rfl) (by simp [byA_len]; omega) (by simp [byA_len]; omega) ?_⟩
        refine ADB.n ?_
        refine ADB.settle 53 rfl rfl (by first | rfl | exact cont_owM _ _ _ _) ?_
        refine ADB.n ?_
        refine ADB.r 11 rfl (rdP_build rfl pl_102 ze_102 rfl rfl) rfl ?_
        refine ADB.all (is := [4, 12]) (by kernel_rfl) (by simp) ?_
        intro i hi
        simp only [List.mem_cons, List.not_mem_nil, or_false] at hi
        rcases hi with rfl | rfl
        ·skip
         refine ⟨_, rfl, rfl, AOpB.op (ARd.opB (rd_load_bx rfl ag_97 rfl rfl rfl) ?_)⟩
         refine ADB.n ?_
         refine ADB.mv 12 rfl (AOpB.op (bs_set rfl ap_97 ze_102 rfl rfl ?_))
         refine ADB.n ?_
         refine ADB.mv 13 rfl (op_appendM rfl ap_97 rfl rfl (src_s rfl) (by simp [burnD]; omega) (by simp [burnD]; omega) ?_)
         refine ADB.n ?_
         refine ADB.r 14 rfl (rdP_nilc_bx rfl rfl rfl) rfl ?_
         refine ADB.r 15 rfl (rdP_faddr_bx rfl fo_99_3 rfl rfl ⟨_, _, rfl⟩) rfl ?_
         refine ADB.mv 16 rfl (op_storo rfl rfl rfl rfl rfl sz_97 ?_)
         refine ADB.n ?_
         refine ADB.done (by kernel_rfl) ?_
         exact ⟨rfl, rfl⟩
        ·skip
         refine ⟨_, rfl, rfl, AOpB.op (bs_set rfl ap_97 ze_102 rfl rfl ?_)⟩
         refine ADB.n ?_
         refine ADB.mv 4 rfl (AOpB.op (ARd.opB (rd_load_bx rfl ag_97 rfl rfl rfl) ?_))
         refine ADB.n ?_
         refine ADB.mv 13 rfl (op_appendM rfl ap_97 rfl rfl (src_s rfl) (by simp [burnD]; omega) (by simp [burnD]; omega) ?_)
         refine ADB.n ?_
         refine ADB.r 14 rfl (rdP_nilc_bx rfl rfl rfl) rfl ?_
         refine ADB.r 15 rfl (rdP_faddr_bx rfl fo_99_3 rfl rfl ⟨_, _, rfl⟩) rfl ?_
         refine ADB.mv 16 rfl (op_storo rfl rfl rfl rfl rfl sz_97 ?_)
         refine ADB.n ?_
         refine ADB.done (by kernel_rfl) ?_
         exact ⟨rfl, rfl⟩
     skip
     change AW _ _ _ _ _
     refine AW.region ?_
     refine AL.rm ?_
     refine AL.r (rd_nilc_bx rfl rfl rfl) ?_
     refine AL.r (rd_faddr_bx rfl fo_99_4 rfl rfl ⟨_, _, rfl⟩) ?_
     refine AL.r (rd_load_bx rfl ag_3 rfl rfl rfl) ?_
     refine AL.rm ?_
     refine AL.r (rd_arith_add rfl rfl rfl (IntWalk.i64_in _ (by simp only [burnD]; omega))) ?_
     refine AL.r (rd_nilc_bx rfl rfl rfl) ?_
     refine AL.r (rd_faddr_bx rfl fo_99_4 rfl rfl ⟨_, _, rfl⟩) ?_
     refine AL.op rfl (op_store_ rfl rfl rfl rfl rfl sz_3 ?_)
     refine AL.no ?_
     refine AL.nil ?_
     change AW _ _ _ _ _
     refine AW.seq ?_
     refine AW.seq ?_
     refine AW.region ?_
     refine AL.rm ?_
     refine AL.r (rd_nilc_bx rfl rfl rfl) ?_
     refine AL.r (rd_faddr_bx rfl fo_99_8 rfl rfl ⟨_, _, rfl⟩) ?_
     refine AL.r (rd_load_bx rfl ag_4 rfl rfl rfl) ?_
     refine AL.nil ?_
     change AW _ _ _ _ _
     refine AW.cd rfl (fun h70 => ?_) (fun h70 => ?_)
     ·skip
      refine AW.seq ?_
      refine AW.region ?_
      refine AL.ra ?_
      refine AL.nil ?_
      change AW _ _ _ _ _
      refine AW.ret ?_
      repeat with_reducible first | refine thenA_ret ?_ | refine inBlockA_ret ?_
      with_reducible first | refine retO_ret ?_ | refine retO_normal ?_
      refine reso1D rfl (ResV.tmp rfl) rfl ?_
      first | exact lfD (app_dark (b := b) (i := 1) h16) | exact lfD (app_full (i := 1) h16 h21) | exact lfD (app_go (i := 1) h16 h21 h27 h70) | exact lfD (app_no (i := 1) h16 h21 h27 h70)
     ·skip
      refine AW.skip ?_
      change AW _ _ _ _ _
      refine AW.seq ?_
      refine AW.region ?_
      refine AL.ra ?_
      refine AL.nil ?_
      change AW _ _ _ _ _
      refine AW.ret ?_
      repeat with_reducible first | refine thenA_ret ?_ | refine inBlockA_ret ?_
      with_reducible first | refine retO_ret ?_ | refine retO_normal ?_
      refine reso1D rfl (ResV.tmp rfl) rfl ?_
      first | exact lfD (app_dark (b := b) (i := 1) h16) | exact lfD (app_full (i := 1) h16 h21) | exact lfD (app_go (i := 1) h16 h21 h27 h70) | exact lfD (app_no (i := 1) h16 h21 h27 h70)
    ·skip
     refine AW.skip ?_
     change AW _ _ _ _ _
     refine AW.seq ?_
     refine AW.seq ?_
     refine AW.region ?_
     refine AL.rm ?_
     refine AL.r (rd_nilc_bx rfl rfl rfl) ?_
     refine AL.r (rd_faddr_bx rfl fo_99_8 rfl rfl ⟨_, _, rfl⟩) ?_
     refine AL.r (rd_load_bx rfl ag_4 rfl rfl rfl) ?_
     refine AL.nil ?_
     change AW _ _ _ _ _
     refine AW.cd rfl (fun h70 => ?_) (fun h70 => ?_)
     ·skip
      refine AW.seq ?_
      refine AW.region ?_
      refine AL.ra ?_
      refine AL.nil ?_
      change AW _ _ _ _ _
      refine AW.ret ?_
      repeat with_reducible first | refine thenA_ret ?_ | refine inBlockA_ret ?_
      with_reducible first | refine retO_ret ?_ | refine retO_normal ?_
      refine reso1D rfl (ResV.tmp rfl) rfl ?_
      first | exact lfD (app_dark (b := b) (i := 1) h16) | exact lfD (app_full (i := 1) h16 h21) | exact lfD (app_go (i := 1) h16 h21 h27 h70) | exact lfD (app_no (i := 1) h16 h21 h27 h70)
     ·skip
      refine AW.skip ?_
      change AW _ _ _ _ _
      refine AW.seq ?_
      refine AW.region ?_
      refine AL.ra ?_
      refine AL.nil ?_
      change AW _ _ _ _ _
      refine AW.ret ?_
      repeat with_reducible first | refine thenA_ret ?_ | refine inBlockA_ret ?_
      with_reducible first | refine retO_ret ?_ | refine retO_normal ?_
      refine reso1D rfl (ResV.tmp rfl) rfl ?_
      first | exact lfD (app_dark (b := b) (i := 1) h16) | exact lfD (app_full (i := 1) h16 h21) | exact lfD (app_go (i := 1) h16 h21 h27 h70) | exact lfD (app_no (i := 1) h16 h21 h27 h70)
theorem cut_c1 (n : Int) (h : d.Fit) : ACo Try.prog 26 [.bx 0 g 0, .sc (.int .i64 1), .sc (.int .i64 n)] (diskT g g1 g2 g3 g4 g5 g6 g7 g8 g9 d)
    (fun y os' => y = .sc (.int .i64 (cutR d 1 n)) ∧ DiskAt g (cutD d 1 n) os') := by
  have hbn := burnN_le (n := 1) h (by omega)
  have hw := h.w
  have hnn := h.n 1
  have hqq := h.q
  refine ACo.of' (st0 := [⟨g, .box 99 [.sc (.int .i64 d.room), .ow 1 g1, .ow 2 g2, .ow 3 g3, .ow 4 g4, .ow 5 g5, .ow 6 g6, .ow 7 g7, .ow 8 g8, .ow 9 g9, .sc (.int .i64 d.waits), .sc (.int .i64 d.done), .sc (.bool d.fused), .sc (.int .i64 d.fuse), .sc (.bool d.dark)]⟩, ⟨g1, owM (d.nf 0) 5 1 (byA (d.n 0))⟩, ⟨g2, owM (d.nf 1) 5 1 (byA (d.n 1))⟩, ⟨g3, owM (d.nf 2) 5 1 (byA (d.n 2))⟩, ⟨g4, owM (d.nf 3) 5 1 (byA (d.n 3))⟩, ⟨g5, owM (d.lf 0) 5 1 (byA (d.l 0))⟩, ⟨g6, owM (d.lf 1) 5 1 (byA (d.l 1))⟩, ⟨g7, owM (d.lf 2) 5 1 (byA (d.l 2))⟩, ⟨g8, owM (d.lf 3) 5 1 (byA (d.l 3))⟩, ⟨g9, owM true 102 4 (d.q.map DeedD.cs)⟩, TK.mk 0 .off, TK.mk 0 .off]) 65 2 Try.func26 rfl 10 ?_
  refine AW.seq ?_
  refine AW.region ?_
  refine AL.ra ?_
  refine AL.nil ?_
  change AW _ _ _ _ _
  refine AW.seq ?_
  refine AW.seq ?_
  refine AW.region ?_
  refine AL.rm ?_
  refine AL.r (rd_peq_bx rfl pt_25 rfl rfl rfl) ?_
  refine AL.nil ?_
  change AW _ _ _ _ _
  refine AW.cond_f rfl ?_
  refine AW.skip ?_
  change AW _ _ _ _ _
  refine AW.seq ?_
  refine AW.seq ?_
  refine AW.region ?_
  refine AL.rm ?_
  refine AL.op rfl (AOpB.op (op_call (right_in (by decide)) rfl (by kernel_rfl) rfl (none) ?_))
  rintro r rfl
  refine AL.no ?_
  refine AL.r (rd_un rfl rfl (fun _ => rfl)) ?_
  refine AL.rm ?_
  refine AL.ro (rd_move rfl rfl) ?_
  refine AL.ro (rd_bin rfl rfl rfl (fun _ => rfl)) ?_
  refine AL.r (rd_pick_f rfl rfl rfl) ?_
  refine AL.rm ?_
  refine AL.fk (d := 16) rfl (fun h16 => ?_) (fun h16 => ?_)
  ·skip
   refine AL.n ?_
   refine AL.rf ?_
   refine AL.rf ?_
   refine AL.rf ?_
   refine AL.rf ?_
   refine AL.rf ?_
   refine AL.rf ?_
   refine AL.rf ?_
   refine AL.rf ?_
   refine AL.rf ?_
   refine AL.r (rd_pick_t rfl rfl rfl) ?_
   refine AL.nil ?_
   change AW _ _ _ _ _
   refine AW.cond_t rfl ?_
   refine AW.seq ?_
   refine AW.region ?_
   refine AL.ra ?_
   refine AL.nil ?_
   change AW _ _ _ _ _
   refine AW.ret ?_
   repeat with_reducible first | refine thenA_ret ?_ | refine inBlockA_ret ?_
   with_reducible first | refine retO_ret ?_ | refine retO_normal ?_
   refine reso1D rfl (ResV.tmp rfl) rfl ?_
   first | exact lfD (cut_arg (d := d) (i := 1) (.inl h16)) | exact lfD (cut_arg (d := d) (i := 1) (.inr h26)) | exact lfD (cut_dark (d := d) (i := 1) h16 h26 h31) | exact lfD (cut_burn (d := d) (i := 1) h16 h26 h31 h35) | exact lfD (cut_go (d := d) (i := 1) h16 h26 h31 h35)
  ·skip
   refine AL.n ?_
   refine AL.ro (rd_move rfl rfl) ?_
   refine AL.ro (rd_move rfl rfl) ?_
   refine AL.ro (rd_move rfl rfl) ?_
   refine AL.ro (rd_nilc_bx rfl rfl rfl) ?_
   refine AL.ro (rd_faddr_bx rfl fo_99_1 rfl rfl ⟨_, _, rfl⟩) ?_
   refine AL.ro (rd_iaddr_bx_ 1 rfl ar_37 rfl rfl rfl) ?_
   refine AL.ro (rd_load_bx rfl ag_29 rfl rfl rfl) ?_
   refine AL.ro (rd_len_owM rfl el_29 rfl rfl) ?_
   refine AL.ro (rd_bin rfl rfl rfl (fun _ => rfl)) ?_
   refine AL.r (rd_pick_f rfl rfl rfl) ?_
   refine AL.nil ?_
   change AW _ _ _ _ _
   refine AW.cd rfl (fun h26 => ?_) (fun h26 => ?_)
   ·skip
    refine AW.seq ?_
    refine AW.region ?_
    refine AL.ra ?_
    refine AL.nil ?_
    change AW _ _ _ _ _
    refine AW.ret ?_
    repeat with_reducible first | refine thenA_ret ?_ | refine inBlockA_ret ?_
    with_reducible first | refine retO_ret ?_ | refine retO_normal ?_
    refine reso1D rfl (ResV.tmp rfl) rfl ?_
    first | exact lfD (cut_arg (d := d) (i := 1) (.inl h16)) | exact lfD (cut_arg (d := d) (i := 1) (.inr h26)) | exact lfD (cut_dark (d := d) (i := 1) h16 h26 h31) | exact lfD (cut_burn (d := d) (i := 1) h16 h26 h31 h35) | exact lfD (cut_go (d := d) (i := 1) h16 h26 h31 h35)
   ·skip
    refine AW.skip ?_
    change AW _ _ _ _ _
    refine AW.seq ?_
    refine AW.seq ?_
    refine AW.region ?_
    obtain ⟨m, rfl⟩ : ∃ m : Nat, n = (m : Int) := ⟨n.toNat, (by omega)⟩
    refine AL.rm ?_
    refine AL.r (rd_nilc_bx rfl rfl rfl) ?_
    refine AL.r (rd_faddr_bx rfl fo_99_8 rfl rfl ⟨_, _, rfl⟩) ?_
    refine AL.r (rd_load_bx rfl ag_4 rfl rfl rfl) ?_
    refine AL.rm ?_
    refine AL.fk (d := 31) rfl (fun h31 => ?_) (fun h31 => ?_)
    ·skip
     refine AL.n ?_
     refine AL.rf ?_
     refine AL.rf ?_
     refine AL.rf ?_
     refine AL.r (rd_pick_t rfl rfl rfl) ?_
     refine AL.nil ?_
     change AW _ _ _ _ _
     refine AW.cond_t rfl ?_
     refine AW.seq ?_
     refine AW.region ?_
     refine AL.ra ?_
     refine AL.nil ?_
     change AW _ _ _ _ _
     refine AW.ret ?_
     repeat with_reducible first | refine thenA_ret ?_ | refine inBlockA_ret ?_
     with_reducible first | refine retO_ret ?_ | refine retO_normal ?_
     refine reso1D rfl (ResV.tmp rfl) rfl ?_
     first | exact lfD (cut_arg (d := d) (i := 1) (.inl h16)) | exact lfD (cut_arg (d := d) (i := 1) (.inr h26)) | exact lfD (cut_dark (d := d) (i := 1) h16 h26 h31) | exact lfD (cut_burn (d := d) (i := 1) h16 h26 h31 h35) | exact lfD (cut_go (d := d) (i := 1) h16 h26 h31 h35)
    ·skip
     refine AL.n ?_
     refine AL.ro (rd_move rfl rfl) ?_
     refine AL.on rfl rfl rfl (calloD (burn_c d g g1 g2 g3 g4 g5 g6 g7 g8 g9 1 h.fuse (by omega)) [0, 1, 2, 3, 4, 5, 6, 7, 8, 9] ?_)
     rintro y os' ⟨rfl, rfl⟩
     refine AL.noD ?_
     refine AL.ro (rd_bin rfl rfl rfl (fun _ => rfl)) ?_
     refine AL.r (rd_pick_f rfl rfl rfl) ?_
     refine AL.nil ?_
     change AW _ _ _ _ _
     refine AW.cd rfl (fun h35 => ?_) (fun h35 => ?_)
     ·skip
      refine AW.seq ?_
      refine AW.region ?_
      refine AL.ra ?_
      refine AL.nil ?_
      change AW _ _ _ _ _
      refine AW.ret ?_
      repeat with_reducible first | refine thenA_ret ?_ | refine inBlockA_ret ?_
      with_reducible first | refine retO_ret ?_ | refine retO_normal ?_
      refine reso1D rfl (ResV.tmp rfl) rfl ?_
      first | exact lfD (cut_arg (d := d) (i := 1) (.inl h16)) | exact lfD (cut_arg (d := d) (i := 1) (.inr h26)) | exact lfD (cut_dark (d := d) (i := 1) h16 h26 h31) | exact lfD (cut_burn (d := d) (i := 1) h16 h26 h31 h35) | exact lfD (cut_go (d := d) (i := 1) h16 h26 h31 h35)
     ·skip
      refine AW.skip ?_
      change AW _ _ _ _ _
      refine AW.seq ?_
      apply AW.drawS (by kernel_rfl)
      ·skip
       refine ADA.r 0 rfl (ARdP.a (rdP_move rfl rfl)) rfl ?_
       refine ADA.r 1 rfl (ARdP.a (rdP_move rfl rfl)) rfl ?_
       refine ADA.r 2 rfl (ARdP.a (rdP_move rfl rfl)) rfl ?_
       refine ADA.r 3 rfl (ARdP.a (rdP_move rfl rfl)) rfl ?_
       refine ADA.r 4 rfl (ARdP.a (rdP_nilc_bx rfl rfl rfl)) rfl ?_
       refine ADA.r 5 rfl (ARdP.a (rdP_faddr_bx rfl fo_99_1 rfl rfl ⟨_, _, rfl⟩)) rfl ?_
       refine ADA.r 6 rfl (ARdP.a (rdP_iaddr_bx_ 1 rfl ar_37 rfl rfl rfl)) rfl ?_
       refine ADA.r 8 rfl (ARdP.a (rdP_move rfl rfl)) rfl ?_
       refine ADA.r 10 rfl (ARdP.a (rdP_nilc_bx rfl rfl rfl)) rfl ?_
       refine ADA.r 11 rfl (ARdP.a (rdP_faddr_bx rfl fo_99_1 rfl rfl ⟨_, _, rfl⟩)) rfl ?_
       refine ADA.b ?_
       refine ADB.mv 7 rfl (AOpB.op (ARd.opB (rd_load_bx rfl ag_29 rfl rfl rfl) ?_))
       refine ADB.n ?_
       refine ADB.mv 9 rfl (AOpB.op (op_sliceM (n := m) rfl el_29 rfl rfl rfl rfl (by simp only [byA_len, burnD]; omega) ?_))
       refine ADB.n ?_
       refine ADB.r 12 rfl (rdP_iaddr_bx_ 1 rfl ar_37 rfl rfl rfl) rfl ?_
       refine ADB.mv 13 rfl (op_storo rfl rfl rfl rfl rfl sz_29 ?_)
       refine ADB.n ?_
       refine ADB.done (by kernel_rfl) ?_
       exact ⟨rfl, rfl⟩
      skip
      change AW _ _ _ _ _
      refine AW.seq ?_
      refine AW.region ?_
      refine AL.rm ?_
      refine AL.rm ?_
      refine AL.r (rd_nilc_bx rfl rfl rfl) ?_
      refine AL.r (rd_faddr_bx rfl fo_99_3 rfl rfl ⟨_, _, rfl⟩) ?_
      refine AL.r (rd_load_bx rfl ag_97 rfl rfl rfl) ?_
      refine AL.rm ?_
      refine AL.rm ?_
      refine AL.r (rd_build rfl pl_102 ze_102 rfl rfl) ?_
      refine AL.op rfl (AOpB.op (bs_set rfl ap_97 ze_102 rfl rfl ?_))
      refine AL.no ?_
      refine AL.op rfl (op_appendM rfl ap_97 rfl rfl (src_s rfl) (by simp [burnD]; omega) (by simp [burnD]; omega) ?_)
      refine AL.no ?_
      refine AL.r (rd_nilc_bx rfl rfl rfl) ?_
      refine AL.r (rd_faddr_bx rfl fo_99_3 rfl rfl ⟨_, _, rfl⟩) ?_
      refine AL.op rfl (op_storo rfl rfl rfl rfl rfl sz_97 ?_)
      refine AL.no ?_
      refine AL.nil ?_
      change AW _ _ _ _ _
      refine AW.seq ?_
      refine AW.region ?_
      refine AL.rm ?_
      refine AL.r (rd_nilc_bx rfl rfl rfl) ?_
      refine AL.r (rd_faddr_bx rfl fo_99_4 rfl rfl ⟨_, _, rfl⟩) ?_
      refine AL.r (rd_load_bx rfl ag_3 rfl rfl rfl) ?_
      refine AL.r (rd_arith_add rfl rfl rfl (IntWalk.i64_in _ (by simp only [burnD]; omega))) ?_
      refine AL.r (rd_nilc_bx rfl rfl rfl) ?_
      refine AL.r (rd_faddr_bx rfl fo_99_4 rfl rfl ⟨_, _, rfl⟩) ?_
      refine AL.op rfl (op_store_ rfl rfl rfl rfl rfl sz_3 ?_)
      refine AL.no ?_
      refine AL.nil ?_
      change AW _ _ _ _ _
      refine AW.seq ?_
      refine AW.region ?_
      refine AL.ra ?_
      refine AL.nil ?_
      change AW _ _ _ _ _
      refine AW.ret ?_
      repeat with_reducible first | refine thenA_ret ?_ | refine inBlockA_ret ?_
      with_reducible first | refine retO_ret ?_ | refine retO_normal ?_
      refine reso1D rfl (ResV.tmp rfl) rfl ?_
      first | exact lfD (cut_arg (d := d) (i := 1) (.inl h16)) | exact lfD (cut_arg (d := d) (i := 1) (.inr h26)) | exact lfD (cut_dark (d := d) (i := 1) h16 h26 h31) | exact lfD (cut_burn (d := d) (i := 1) h16 h26 h31 h35) | exact lfD (cut_go (d := d) (i := 1) h16 h26 h31 h35)
theorem append_c2 (b : List UInt8) (h : d.Fit) (hb : b.length ≤ 1099511627776) : ACo Try.prog 19 [.bx 0 g 0, .sc (.int .i64 2), .sl (byA b)] (diskT g g1 g2 g3 g4 g5 g6 g7 g8 g9 d)
    (fun y os' => y = .sc (.int .i64 (appR d b)) ∧ DiskAt g (appD d 2 b) os') := by
  have hbn := burnN_le (n := b.length) h (by omega)
  have hw := h.w
  have hnn := h.n 2
  have hqq := h.q
  refine ACo.of' (st0 := [⟨g, .box 99 [.sc (.int .i64 d.room), .ow 1 g1, .ow 2 g2, .ow 3 g3, .ow 4 g4, .ow 5 g5, .ow 6 g6, .ow 7 g7, .ow 8 g8, .ow 9 g9, .sc (.int .i64 d.waits), .sc (.int .i64 d.done), .sc (.bool d.fused), .sc (.int .i64 d.fuse), .sc (.bool d.dark)]⟩, ⟨g1, owM (d.nf 0) 5 1 (byA (d.n 0))⟩, ⟨g2, owM (d.nf 1) 5 1 (byA (d.n 1))⟩, ⟨g3, owM (d.nf 2) 5 1 (byA (d.n 2))⟩, ⟨g4, owM (d.nf 3) 5 1 (byA (d.n 3))⟩, ⟨g5, owM (d.lf 0) 5 1 (byA (d.l 0))⟩, ⟨g6, owM (d.lf 1) 5 1 (byA (d.l 1))⟩, ⟨g7, owM (d.lf 2) 5 1 (byA (d.l 2))⟩, ⟨g8, owM (d.lf 3) 5 1 (byA (d.l 3))⟩, ⟨g9, owM true 102 4 (d.q.map DeedD.cs)⟩, TK.mk 0 .off, TK.mk 0 .off, TK.mk 0 .off, TK.mk 0 .off, TK.mk 0 .off]) 68 5 Try.func19 rfl 10 ?_
  refine AW.seq ?_
  refine AW.region ?_
  refine AL.ra ?_
  refine AL.nil ?_
  change AW _ _ _ _ _
  refine AW.seq ?_
  refine AW.seq ?_
  refine AW.region ?_
  refine AL.rm ?_
  refine AL.r (rd_peq_bx rfl pt_25 rfl rfl rfl) ?_
  refine AL.nil ?_
  change AW _ _ _ _ _
  refine AW.cond_f rfl ?_
  refine AW.skip ?_
  change AW _ _ _ _ _
  refine AW.seq ?_
  refine AW.seq ?_
  refine AW.region ?_
  refine AL.rm ?_
  refine AL.op rfl (AOpB.op (op_call (right_in (by decide)) rfl (by kernel_rfl) rfl (none) ?_))
  rintro r rfl
  refine AL.no ?_
  refine AL.r (rd_un rfl rfl (fun _ => rfl)) ?_
  refine AL.nil ?_
  change AW _ _ _ _ _
  refine AW.cond_f rfl ?_
  refine AW.skip ?_
  change AW _ _ _ _ _
  refine AW.seq ?_
  refine AW.seq ?_
  refine AW.region ?_
  refine AL.rm ?_
  refine AL.r (rd_nilc_bx rfl rfl rfl) ?_
  refine AL.r (rd_faddr_bx rfl fo_99_8 rfl rfl ⟨_, _, rfl⟩) ?_
  refine AL.r (rd_load_bx rfl ag_4 rfl rfl rfl) ?_
  refine AL.nil ?_
  change AW _ _ _ _ _
  refine AW.cd rfl (fun h16 => ?_) (fun h16 => ?_)
  ·skip
   refine AW.seq ?_
   refine AW.region ?_
   refine AL.ra ?_
   refine AL.nil ?_
   change AW _ _ _ _ _
   refine AW.ret ?_
   repeat with_reducible first | refine thenA_ret ?_ | refine inBlockA_ret ?_
   with_reducible first | refine retO_ret ?_ | refine retO_normal ?_
   refine reso1D rfl (ResV.tmp rfl) rfl ?_
   first | exact lfD (app_dark (b := b) (i := 2) h16) | exact lfD (app_full (i := 2) h16 h21) | exact lfD (app_go (i := 2) h16 h21 h27 h70) | exact lfD (app_no (i := 2) h16 h21 h27 h70)
  ·skip
   refine AW.skip ?_
   change AW _ _ _ _ _
   refine AW.seq ?_
   refine AW.seq ?_
   refine AW.region ?_
   refine AL.rm ?_
   refine AL.r (rd_len_sl rfl el_29 rfl) ?_
   refine AL.rm ?_
   refine AL.op rfl (calloD (left_c d g g1 g2 g3 g4 g5 g6 g7 g8 g9 h.room h.n) [0, 1, 2, 3, 4, 5, 6, 7, 8, 9] ?_)
   rintro y os' ⟨rfl, rfl⟩
   refine AL.noD ?_
   refine AL.r (rd_bin rfl rfl rfl (fun _ => rfl)) ?_
   refine AL.nil ?_
   change AW _ _ _ _ _
   refine AW.cd rfl (fun h21 => ?_) (fun h21 => ?_)
   ·skip
    refine AW.seq ?_
    refine AW.region ?_
    refine AL.ra ?_
    refine AL.nil ?_
    change AW _ _ _ _ _
    refine AW.ret ?_
    repeat with_reducible first | refine thenA_ret ?_ | refine inBlockA_ret ?_
    with_reducible first | refine retO_ret ?_ | refine retO_normal ?_
    refine reso1D rfl (ResV.tmp rfl) rfl ?_
    first | exact lfD (app_dark (b := b) (i := 2) h16) | exact lfD (app_full (i := 2) h16 h21) | exact lfD (app_go (i := 2) h16 h21 h27 h70) | exact lfD (app_no (i := 2) h16 h21 h27 h70)
   ·skip
    refine AW.skip ?_
    change AW _ _ _ _ _
    refine AW.seq ?_
    refine AW.region ?_
    refine AL.rm ?_
    refine AL.rm ?_
    refine AL.r (rd_len_sl rfl el_29 rfl) ?_
    refine AL.op rfl (calloD (burn_c d g g1 g2 g3 g4 g5 g6 g7 g8 g9 (b.length : Int) h.fuse (by omega)) [0, 1, 2, 3, 4, 5, 6, 7, 8, 9] ?_)
    rintro y os' ⟨rfl, rfl⟩
    refine AL.noD ?_
    refine AL.ra ?_
    refine AL.nil ?_
    change AW _ _ _ _ _
    refine AW.seq ?_
    refine AW.seq ?_
    refine AW.region ?_
    refine AL.rm ?_
    refine AL.r (rd_bin rfl rfl rfl (fun _ => rfl)) ?_
    refine AL.nil ?_
    change AW _ _ _ _ _
    refine AW.cd rfl (fun h27 => ?_) (fun h27 => ?_)
    ·skip
     refine AW.seq ?_
     apply AW.drawS (by kernel_rfl)
     ·skip
      refine ADA.r 0 rfl (ARdP.a (rdP_move rfl rfl)) rfl ?_
      refine ADA.r 1 rfl (ARdP.a (rdP_move rfl rfl)) rfl ?_
      refine ADA.r 2 rfl (ARdP.a (rdP_move rfl rfl)) rfl ?_
      refine ADA.r 3 rfl (ARdP.a (rdP_move rfl rfl)) rfl ?_
      refine ADA.r 4 rfl (ARdP.a (rdP_nilc_bx rfl rfl rfl)) rfl ?_
      refine ADA.r 5 rfl (ARdP.a (rdP_faddr_bx rfl fo_99_1 rfl rfl ⟨_, _, rfl⟩)) rfl ?_
      refine ADA.r 6 rfl (ARdP.a (rdP_iaddr_bx_ 2 rfl ar_37 rfl rfl rfl)) rfl ?_
      refine ADA.r 8 rfl (ARdP.a (rdP_move rfl rfl)) rfl ?_
      refine ADA.r 9 rfl (ARdP.a (rdP_move rfl rfl)) rfl ?_
      refine ADA.r 10 rfl (ARdP.a (rdP_slice_sl rfl el_29 rfl byA_one rfl ⟨_, _, rfl, (Int.toNat_of_nonneg (by omega)).symm⟩ (by omega) (by simp only [byA_len]; omega))) rfl ?_
      refine ADA.r 12 rfl (ARdP.a (rdP_nilc_bx rfl rfl rfl)) rfl ?_
      refine ADA.r 13 rfl (ARdP.a (rdP_faddr_bx rfl fo_99_1 rfl rfl ⟨_, _, rfl⟩)) rfl ?_
      refine ADA.b ?_
      refine ADB.mv 7 rfl (AOpB.op (ARd.opB (rd_load_bx rfl ag_29 rfl rfl rfl) ?_))
      refine ADB.n ?_
      refine ADB.mv 11 rfl (op_appendM rfl ap_29 rfl rfl (src_s rfl) (by simp only [byA_len, burnD, List.length_drop, List.length_take]; omega) (by simp only [byA_len, burnD, List.length_drop, List.length_take]; omega) ?_)
      refine ADB.n ?_
      refine ADB.r 14 rfl (rdP_iaddr_bx_ 2 rfl ar_37 rfl rfl rfl) rfl ?_
      refine ADB.mv 15 rfl (op_storo rfl rfl rfl rfl rfl sz_29 ?_)
      refine ADB.n ?_
      refine ADB.done (by kernel_rfl) ?_
      exact ⟨rfl, rfl⟩
     skip
     change AW _ _ _ _ _
     refine AW.seq ?_
     apply AW.drawS (by kernel_rfl)
     ·skip
      refine ADA.r 0 rfl (ARdP.a (rdP_move rfl rfl)) rfl ?_
      refine ADA.r 1 rfl (ARdP.a (rdP_move rfl rfl)) rfl ?_
      refine ADA.r 2 rfl (ARdP.a (rdP_nilc_bx rfl rfl rfl)) rfl ?_
      refine ADA.r 3 rfl (ARdP.a (rdP_faddr_bx rfl fo_99_3 rfl rfl ⟨_, _, rfl⟩)) rfl ?_
      refine ADA.r 5 rfl (ARdP.a (rdP_move rfl rfl)) rfl ?_
      refine ADA.r 7 rfl (ARdP.a (rdP_move rfl rfl)) rfl ?_
      refine ADA.r 8 rfl (ARdP.a (rdP_move rfl rfl)) rfl ?_
      refine ADA.r 9 rfl (ARdP.a (rdP_slice_sl rfl el_29 rfl byA_one rfl ⟨_, _, rfl, (Int.toNat_of_nonneg (by omega)).symm⟩ (by omega) (by simp only [byA_len]; omega))) rfl ?_
      refine ADA.b ?_
      refine ADB.all (is := [4, 6]) (by kernel_rfl) (by simp) ?_
      intro i hi
      simp only [List.mem_cons, List.not_mem_nil, or_false] at hi
      rcases hi with rfl | rfl
      ·skip
       refine ⟨_, rfl, rfl, AOpB.op (ARd.opB (rd_load_bx rfl ag_97 rfl rfl rfl) ?_)⟩
       refine ADB.n ?_
       refine ADB.mv 6 rfl (AOpB.op (bs_own 11 rfl ap_29 ze_5 rfl rfl rfl ?_))
       refine ADB.n ?_
       refine ADB.mv 10 rfl (op_append rfl ap_29 rfl rfl (src_s rfl) (by simp [byA_len]; omega) (by simp [byA_len]; omega) ?_)
       refine ADB.n ?_
       refine ADB.settle 53 rfl rfl (by first | rfl | exact cont_owM _ _ _ _) ?_
       refine ADB.n ?_
       refine ADB.r 11 rfl (rdP_build rfl pl_102 ze_102 rfl rfl) rfl ?_
       refine ADB.mv 12 rfl (AOpB.op (bs_set rfl ap_97 ze_102 rfl rfl ?_))
       refine ADB.n ?_
       refine ADB.mv 13 rfl (op_appendM rfl ap_97 rfl rfl (src_s rfl) (by simp [burnD]; omega) (by simp [burnD]; omega) ?_)
       refine ADB.n ?_
       refine ADB.r 14 rfl (rdP_nilc_bx rfl rfl rfl) rfl ?_
       refine ADB.r 15 rfl (rdP_faddr_bx rfl fo_99_3 rfl rfl ⟨_, _, rfl⟩) rfl ?_
       refine ADB.mv 16 rfl (op_storo rfl rfl rfl rfl rfl sz_97 ?_)
       refine ADB.n ?_
       refine ADB.done (by kernel_rfl) ?_
       exact ⟨rfl, rfl⟩
      ·skip
       refine ⟨_, rfl, rfl, AOpB.op (bs_own 11 rfl ap_29 ze_5 rfl rfl rfl ?_)⟩
       refine ADB.n ?_
       refine ADB.all (is := [4, 10]) (by kernel_rfl) (by simp) ?_
       intro i hi
       simp only [List.mem_cons, List.not_mem_nil, or_false] at hi
       rcases hi with rfl | rfl
       ·skip
        refine ⟨_, rfl, rfl, AOpB.op (ARd.opB (rd_load_bx rfl ag_97 rfl rfl rfl) ?_)⟩
        refine ADB.n ?_
        refine ADB.mv 10 rfl (op_append rfl ap_29 rfl rfl (src_s rfl) (by simp [byA_len]; omega) (by simp [byA_len]; omega) ?_)
        refine ADB.n ?_
        refine ADB.settle 53 rfl rfl (by first | rfl | exact cont_owM _ _ _ _) ?_
        refine ADB.n ?_
        refine ADB.r 11 rfl (rdP_build rfl pl_102 ze_102 rfl rfl) rfl ?_
        refine ADB.mv 12 rfl (AOpB.op (bs_set rfl ap_97 ze_102 rfl rfl ?_))
        refine ADB.n ?_
        refine ADB.mv 13 rfl (op_appendM rfl ap_97 rfl rfl (src_s rfl) (by simp [burnD]; omega) (by simp [burnD]; omega) ?_)
        refine ADB.n ?_
        refine ADB.r 14 rfl (rdP_nilc_bx rfl rfl rfl) rfl ?_
        refine ADB.r 15 rfl (rdP_faddr_bx rfl fo_99_3 rfl rfl ⟨_, _, rfl⟩) rfl ?_
        refine ADB.mv 16 rfl (op_storo rfl rfl rfl rfl rfl sz_97 ?_)
        refine ADB.n ?_
        refine ADB.done (by kernel_rfl) ?_
        exact ⟨rfl, rfl⟩
       ·skip
        refine ⟨_, rfl, rfl, op_append rfl ap_29 rfl rfl (src_s rfl) (by simp [byA_len]; omega) (by simp [byA_len]; omega) ?_⟩
        refine ADB.n ?_
        refine ADB.settle 53 rfl rfl (by first | rfl | exact cont_owM _ _ _ _) ?_
        refine ADB.n ?_
        refine ADB.r 11 rfl (rdP_build rfl pl_102 ze_102 rfl rfl) rfl ?_
        refine ADB.all (is := [4, 12]) (by kernel_rfl) (by simp) ?_
        intro i hi
        simp only [List.mem_cons, List.not_mem_nil, or_false] at hi
        rcases hi with rfl | rfl
        ·skip
         refine ⟨_, rfl, rfl, AOpB.op (ARd.opB (rd_load_bx rfl ag_97 rfl rfl rfl) ?_)⟩
         refine ADB.n ?_
         refine ADB.mv 12 rfl (AOpB.op (bs_set rfl ap_97 ze_102 rfl rfl ?_))
         refine ADB.n ?_
         refine ADB.mv 13 rfl (op_appendM rfl ap_97 rfl rfl (src_s rfl) (by simp [burnD]; omega) (by simp [burnD]; omega) ?_)
         refine ADB.n ?_
         refine ADB.r 14 rfl (rdP_nilc_bx rfl rfl rfl) rfl ?_
         refine ADB.r 15 rfl (rdP_faddr_bx rfl fo_99_3 rfl rfl ⟨_, _, rfl⟩) rfl ?_
         refine ADB.mv 16 rfl (op_storo rfl rfl rfl rfl rfl sz_97 ?_)
         refine ADB.n ?_
         refine ADB.done (by kernel_rfl) ?_
         exact ⟨rfl, rfl⟩
        ·skip
         refine ⟨_, rfl, rfl, AOpB.op (bs_set rfl ap_97 ze_102 rfl rfl ?_)⟩
         refine ADB.n ?_
         refine ADB.mv 4 rfl (AOpB.op (ARd.opB (rd_load_bx rfl ag_97 rfl rfl rfl) ?_))
         refine ADB.n ?_
         refine ADB.mv 13 rfl (op_appendM rfl ap_97 rfl rfl (src_s rfl) (by simp [burnD]; omega) (by simp [burnD]; omega) ?_)
         refine ADB.n ?_
         refine ADB.r 14 rfl (rdP_nilc_bx rfl rfl rfl) rfl ?_
         refine ADB.r 15 rfl (rdP_faddr_bx rfl fo_99_3 rfl rfl ⟨_, _, rfl⟩) rfl ?_
         refine ADB.mv 16 rfl (op_storo rfl rfl rfl rfl rfl sz_97 ?_)
         refine ADB.n ?_
         refine ADB.done (by kernel_rfl) ?_
         exact ⟨rfl, rfl⟩
     skip
     change AW _ _ _ _ _
     refine AW.region ?_
     refine AL.rm ?_
     refine AL.r (rd_nilc_bx rfl rfl rfl) ?_
     refine AL.r (rd_faddr_bx rfl fo_99_4 rfl rfl ⟨_, _, rfl⟩) ?_
     refine AL.r (rd_load_bx rfl ag_3 rfl rfl rfl) ?_
     refine AL.rm ?_
     refine AL.r (rd_arith_add rfl rfl rfl (IntWalk.i64_in _ (by simp only [burnD]; omega))) ?_
     refine AL.r (rd_nilc_bx rfl rfl rfl) ?_
     refine AL.r (rd_faddr_bx rfl fo_99_4 rfl rfl ⟨_, _, rfl⟩) ?_
     refine AL.op rfl (op_store_ rfl rfl rfl rfl rfl sz_3 ?_)
     refine AL.no ?_
     refine AL.nil ?_
     change AW _ _ _ _ _
     refine AW.seq ?_
     refine AW.seq ?_
     refine AW.region ?_
     refine AL.rm ?_
     refine AL.r (rd_nilc_bx rfl rfl rfl) ?_
     refine AL.r (rd_faddr_bx rfl fo_99_8 rfl rfl ⟨_, _, rfl⟩) ?_
     refine AL.r (rd_load_bx rfl ag_4 rfl rfl rfl) ?_
     refine AL.nil ?_
     change AW _ _ _ _ _
     refine AW.cd rfl (fun h70 => ?_) (fun h70 => ?_)
     ·skip
      refine AW.seq ?_
      refine AW.region ?_
      refine AL.ra ?_
      refine AL.nil ?_
      change AW _ _ _ _ _
      refine AW.ret ?_
      repeat with_reducible first | refine thenA_ret ?_ | refine inBlockA_ret ?_
      with_reducible first | refine retO_ret ?_ | refine retO_normal ?_
      refine reso1D rfl (ResV.tmp rfl) rfl ?_
      first | exact lfD (app_dark (b := b) (i := 2) h16) | exact lfD (app_full (i := 2) h16 h21) | exact lfD (app_go (i := 2) h16 h21 h27 h70) | exact lfD (app_no (i := 2) h16 h21 h27 h70)
     ·skip
      refine AW.skip ?_
      change AW _ _ _ _ _
      refine AW.seq ?_
      refine AW.region ?_
      refine AL.ra ?_
      refine AL.nil ?_
      change AW _ _ _ _ _
      refine AW.ret ?_
      repeat with_reducible first | refine thenA_ret ?_ | refine inBlockA_ret ?_
      with_reducible first | refine retO_ret ?_ | refine retO_normal ?_
      refine reso1D rfl (ResV.tmp rfl) rfl ?_
      first | exact lfD (app_dark (b := b) (i := 2) h16) | exact lfD (app_full (i := 2) h16 h21) | exact lfD (app_go (i := 2) h16 h21 h27 h70) | exact lfD (app_no (i := 2) h16 h21 h27 h70)
    ·skip
     refine AW.skip ?_
     change AW _ _ _ _ _
     refine AW.seq ?_
     refine AW.seq ?_
     refine AW.region ?_
     refine AL.rm ?_
     refine AL.r (rd_nilc_bx rfl rfl rfl) ?_
     refine AL.r (rd_faddr_bx rfl fo_99_8 rfl rfl ⟨_, _, rfl⟩) ?_
     refine AL.r (rd_load_bx rfl ag_4 rfl rfl rfl) ?_
     refine AL.nil ?_
     change AW _ _ _ _ _
     refine AW.cd rfl (fun h70 => ?_) (fun h70 => ?_)
     ·skip
      refine AW.seq ?_
      refine AW.region ?_
      refine AL.ra ?_
      refine AL.nil ?_
      change AW _ _ _ _ _
      refine AW.ret ?_
      repeat with_reducible first | refine thenA_ret ?_ | refine inBlockA_ret ?_
      with_reducible first | refine retO_ret ?_ | refine retO_normal ?_
      refine reso1D rfl (ResV.tmp rfl) rfl ?_
      first | exact lfD (app_dark (b := b) (i := 2) h16) | exact lfD (app_full (i := 2) h16 h21) | exact lfD (app_go (i := 2) h16 h21 h27 h70) | exact lfD (app_no (i := 2) h16 h21 h27 h70)
     ·skip
      refine AW.skip ?_
      change AW _ _ _ _ _
      refine AW.seq ?_
      refine AW.region ?_
      refine AL.ra ?_
      refine AL.nil ?_
      change AW _ _ _ _ _
      refine AW.ret ?_
      repeat with_reducible first | refine thenA_ret ?_ | refine inBlockA_ret ?_
      with_reducible first | refine retO_ret ?_ | refine retO_normal ?_
      refine reso1D rfl (ResV.tmp rfl) rfl ?_
      first | exact lfD (app_dark (b := b) (i := 2) h16) | exact lfD (app_full (i := 2) h16 h21) | exact lfD (app_go (i := 2) h16 h21 h27 h70) | exact lfD (app_no (i := 2) h16 h21 h27 h70)
theorem cut_c2 (n : Int) (h : d.Fit) : ACo Try.prog 26 [.bx 0 g 0, .sc (.int .i64 2), .sc (.int .i64 n)] (diskT g g1 g2 g3 g4 g5 g6 g7 g8 g9 d)
    (fun y os' => y = .sc (.int .i64 (cutR d 2 n)) ∧ DiskAt g (cutD d 2 n) os') := by
  have hbn := burnN_le (n := 1) h (by omega)
  have hw := h.w
  have hnn := h.n 2
  have hqq := h.q
  refine ACo.of' (st0 := [⟨g, .box 99 [.sc (.int .i64 d.room), .ow 1 g1, .ow 2 g2, .ow 3 g3, .ow 4 g4, .ow 5 g5, .ow 6 g6, .ow 7 g7, .ow 8 g8, .ow 9 g9, .sc (.int .i64 d.waits), .sc (.int .i64 d.done), .sc (.bool d.fused), .sc (.int .i64 d.fuse), .sc (.bool d.dark)]⟩, ⟨g1, owM (d.nf 0) 5 1 (byA (d.n 0))⟩, ⟨g2, owM (d.nf 1) 5 1 (byA (d.n 1))⟩, ⟨g3, owM (d.nf 2) 5 1 (byA (d.n 2))⟩, ⟨g4, owM (d.nf 3) 5 1 (byA (d.n 3))⟩, ⟨g5, owM (d.lf 0) 5 1 (byA (d.l 0))⟩, ⟨g6, owM (d.lf 1) 5 1 (byA (d.l 1))⟩, ⟨g7, owM (d.lf 2) 5 1 (byA (d.l 2))⟩, ⟨g8, owM (d.lf 3) 5 1 (byA (d.l 3))⟩, ⟨g9, owM true 102 4 (d.q.map DeedD.cs)⟩, TK.mk 0 .off, TK.mk 0 .off]) 65 2 Try.func26 rfl 10 ?_
  refine AW.seq ?_
  refine AW.region ?_
  refine AL.ra ?_
  refine AL.nil ?_
  change AW _ _ _ _ _
  refine AW.seq ?_
  refine AW.seq ?_
  refine AW.region ?_
  refine AL.rm ?_
  refine AL.r (rd_peq_bx rfl pt_25 rfl rfl rfl) ?_
  refine AL.nil ?_
  change AW _ _ _ _ _
  refine AW.cond_f rfl ?_
  refine AW.skip ?_
  change AW _ _ _ _ _
  refine AW.seq ?_
  refine AW.seq ?_
  refine AW.region ?_
  refine AL.rm ?_
  refine AL.op rfl (AOpB.op (op_call (right_in (by decide)) rfl (by kernel_rfl) rfl (none) ?_))
  rintro r rfl
  refine AL.no ?_
  refine AL.r (rd_un rfl rfl (fun _ => rfl)) ?_
  refine AL.rm ?_
  refine AL.ro (rd_move rfl rfl) ?_
  refine AL.ro (rd_bin rfl rfl rfl (fun _ => rfl)) ?_
  refine AL.r (rd_pick_f rfl rfl rfl) ?_
  refine AL.rm ?_
  refine AL.fk (d := 16) rfl (fun h16 => ?_) (fun h16 => ?_)
  ·skip
   refine AL.n ?_
   refine AL.rf ?_
   refine AL.rf ?_
   refine AL.rf ?_
   refine AL.rf ?_
   refine AL.rf ?_
   refine AL.rf ?_
   refine AL.rf ?_
   refine AL.rf ?_
   refine AL.rf ?_
   refine AL.r (rd_pick_t rfl rfl rfl) ?_
   refine AL.nil ?_
   change AW _ _ _ _ _
   refine AW.cond_t rfl ?_
   refine AW.seq ?_
   refine AW.region ?_
   refine AL.ra ?_
   refine AL.nil ?_
   change AW _ _ _ _ _
   refine AW.ret ?_
   repeat with_reducible first | refine thenA_ret ?_ | refine inBlockA_ret ?_
   with_reducible first | refine retO_ret ?_ | refine retO_normal ?_
   refine reso1D rfl (ResV.tmp rfl) rfl ?_
   first | exact lfD (cut_arg (d := d) (i := 2) (.inl h16)) | exact lfD (cut_arg (d := d) (i := 2) (.inr h26)) | exact lfD (cut_dark (d := d) (i := 2) h16 h26 h31) | exact lfD (cut_burn (d := d) (i := 2) h16 h26 h31 h35) | exact lfD (cut_go (d := d) (i := 2) h16 h26 h31 h35)
  ·skip
   refine AL.n ?_
   refine AL.ro (rd_move rfl rfl) ?_
   refine AL.ro (rd_move rfl rfl) ?_
   refine AL.ro (rd_move rfl rfl) ?_
   refine AL.ro (rd_nilc_bx rfl rfl rfl) ?_
   refine AL.ro (rd_faddr_bx rfl fo_99_1 rfl rfl ⟨_, _, rfl⟩) ?_
   refine AL.ro (rd_iaddr_bx_ 2 rfl ar_37 rfl rfl rfl) ?_
   refine AL.ro (rd_load_bx rfl ag_29 rfl rfl rfl) ?_
   refine AL.ro (rd_len_owM rfl el_29 rfl rfl) ?_
   refine AL.ro (rd_bin rfl rfl rfl (fun _ => rfl)) ?_
   refine AL.r (rd_pick_f rfl rfl rfl) ?_
   refine AL.nil ?_
   change AW _ _ _ _ _
   refine AW.cd rfl (fun h26 => ?_) (fun h26 => ?_)
   ·skip
    refine AW.seq ?_
    refine AW.region ?_
    refine AL.ra ?_
    refine AL.nil ?_
    change AW _ _ _ _ _
    refine AW.ret ?_
    repeat with_reducible first | refine thenA_ret ?_ | refine inBlockA_ret ?_
    with_reducible first | refine retO_ret ?_ | refine retO_normal ?_
    refine reso1D rfl (ResV.tmp rfl) rfl ?_
    first | exact lfD (cut_arg (d := d) (i := 2) (.inl h16)) | exact lfD (cut_arg (d := d) (i := 2) (.inr h26)) | exact lfD (cut_dark (d := d) (i := 2) h16 h26 h31) | exact lfD (cut_burn (d := d) (i := 2) h16 h26 h31 h35) | exact lfD (cut_go (d := d) (i := 2) h16 h26 h31 h35)
   ·skip
    refine AW.skip ?_
    change AW _ _ _ _ _
    refine AW.seq ?_
    refine AW.seq ?_
    refine AW.region ?_
    obtain ⟨m, rfl⟩ : ∃ m : Nat, n = (m : Int) := ⟨n.toNat, (by omega)⟩
    refine AL.rm ?_
    refine AL.r (rd_nilc_bx rfl rfl rfl) ?_
    refine AL.r (rd_faddr_bx rfl fo_99_8 rfl rfl ⟨_, _, rfl⟩) ?_
    refine AL.r (rd_load_bx rfl ag_4 rfl rfl rfl) ?_
    refine AL.rm ?_
    refine AL.fk (d := 31) rfl (fun h31 => ?_) (fun h31 => ?_)
    ·skip
     refine AL.n ?_
     refine AL.rf ?_
     refine AL.rf ?_
     refine AL.rf ?_
     refine AL.r (rd_pick_t rfl rfl rfl) ?_
     refine AL.nil ?_
     change AW _ _ _ _ _
     refine AW.cond_t rfl ?_
     refine AW.seq ?_
     refine AW.region ?_
     refine AL.ra ?_
     refine AL.nil ?_
     change AW _ _ _ _ _
     refine AW.ret ?_
     repeat with_reducible first | refine thenA_ret ?_ | refine inBlockA_ret ?_
     with_reducible first | refine retO_ret ?_ | refine retO_normal ?_
     refine reso1D rfl (ResV.tmp rfl) rfl ?_
     first | exact lfD (cut_arg (d := d) (i := 2) (.inl h16)) | exact lfD (cut_arg (d := d) (i := 2) (.inr h26)) | exact lfD (cut_dark (d := d) (i := 2) h16 h26 h31) | exact lfD (cut_burn (d := d) (i := 2) h16 h26 h31 h35) | exact lfD (cut_go (d := d) (i := 2) h16 h26 h31 h35)
    ·skip
     refine AL.n ?_
     refine AL.ro (rd_move rfl rfl) ?_
     refine AL.on rfl rfl rfl (calloD (burn_c d g g1 g2 g3 g4 g5 g6 g7 g8 g9 1 h.fuse (by omega)) [0, 1, 2, 3, 4, 5, 6, 7, 8, 9] ?_)
     rintro y os' ⟨rfl, rfl⟩
     refine AL.noD ?_
     refine AL.ro (rd_bin rfl rfl rfl (fun _ => rfl)) ?_
     refine AL.r (rd_pick_f rfl rfl rfl) ?_
     refine AL.nil ?_
     change AW _ _ _ _ _
     refine AW.cd rfl (fun h35 => ?_) (fun h35 => ?_)
     ·skip
      refine AW.seq ?_
      refine AW.region ?_
      refine AL.ra ?_
      refine AL.nil ?_
      change AW _ _ _ _ _
      refine AW.ret ?_
      repeat with_reducible first | refine thenA_ret ?_ | refine inBlockA_ret ?_
      with_reducible first | refine retO_ret ?_ | refine retO_normal ?_
      refine reso1D rfl (ResV.tmp rfl) rfl ?_
      first | exact lfD (cut_arg (d := d) (i := 2) (.inl h16)) | exact lfD (cut_arg (d := d) (i := 2) (.inr h26)) | exact lfD (cut_dark (d := d) (i := 2) h16 h26 h31) | exact lfD (cut_burn (d := d) (i := 2) h16 h26 h31 h35) | exact lfD (cut_go (d := d) (i := 2) h16 h26 h31 h35)
     ·skip
      refine AW.skip ?_
      change AW _ _ _ _ _
      refine AW.seq ?_
      apply AW.drawS (by kernel_rfl)
      ·skip
       refine ADA.r 0 rfl (ARdP.a (rdP_move rfl rfl)) rfl ?_
       refine ADA.r 1 rfl (ARdP.a (rdP_move rfl rfl)) rfl ?_
       refine ADA.r 2 rfl (ARdP.a (rdP_move rfl rfl)) rfl ?_
       refine ADA.r 3 rfl (ARdP.a (rdP_move rfl rfl)) rfl ?_
       refine ADA.r 4 rfl (ARdP.a (rdP_nilc_bx rfl rfl rfl)) rfl ?_
       refine ADA.r 5 rfl (ARdP.a (rdP_faddr_bx rfl fo_99_1 rfl rfl ⟨_, _, rfl⟩)) rfl ?_
       refine ADA.r 6 rfl (ARdP.a (rdP_iaddr_bx_ 2 rfl ar_37 rfl rfl rfl)) rfl ?_
       refine ADA.r 8 rfl (ARdP.a (rdP_move rfl rfl)) rfl ?_
       refine ADA.r 10 rfl (ARdP.a (rdP_nilc_bx rfl rfl rfl)) rfl ?_
       refine ADA.r 11 rfl (ARdP.a (rdP_faddr_bx rfl fo_99_1 rfl rfl ⟨_, _, rfl⟩)) rfl ?_
       refine ADA.b ?_
       refine ADB.mv 7 rfl (AOpB.op (ARd.opB (rd_load_bx rfl ag_29 rfl rfl rfl) ?_))
       refine ADB.n ?_
       refine ADB.mv 9 rfl (AOpB.op (op_sliceM (n := m) rfl el_29 rfl rfl rfl rfl (by simp only [byA_len, burnD]; omega) ?_))
       refine ADB.n ?_
       refine ADB.r 12 rfl (rdP_iaddr_bx_ 2 rfl ar_37 rfl rfl rfl) rfl ?_
       refine ADB.mv 13 rfl (op_storo rfl rfl rfl rfl rfl sz_29 ?_)
       refine ADB.n ?_
       refine ADB.done (by kernel_rfl) ?_
       exact ⟨rfl, rfl⟩
      skip
      change AW _ _ _ _ _
      refine AW.seq ?_
      refine AW.region ?_
      refine AL.rm ?_
      refine AL.rm ?_
      refine AL.r (rd_nilc_bx rfl rfl rfl) ?_
      refine AL.r (rd_faddr_bx rfl fo_99_3 rfl rfl ⟨_, _, rfl⟩) ?_
      refine AL.r (rd_load_bx rfl ag_97 rfl rfl rfl) ?_
      refine AL.rm ?_
      refine AL.rm ?_
      refine AL.r (rd_build rfl pl_102 ze_102 rfl rfl) ?_
      refine AL.op rfl (AOpB.op (bs_set rfl ap_97 ze_102 rfl rfl ?_))
      refine AL.no ?_
      refine AL.op rfl (op_appendM rfl ap_97 rfl rfl (src_s rfl) (by simp [burnD]; omega) (by simp [burnD]; omega) ?_)
      refine AL.no ?_
      refine AL.r (rd_nilc_bx rfl rfl rfl) ?_
      refine AL.r (rd_faddr_bx rfl fo_99_3 rfl rfl ⟨_, _, rfl⟩) ?_
      refine AL.op rfl (op_storo rfl rfl rfl rfl rfl sz_97 ?_)
      refine AL.no ?_
      refine AL.nil ?_
      change AW _ _ _ _ _
      refine AW.seq ?_
      refine AW.region ?_
      refine AL.rm ?_
      refine AL.r (rd_nilc_bx rfl rfl rfl) ?_
      refine AL.r (rd_faddr_bx rfl fo_99_4 rfl rfl ⟨_, _, rfl⟩) ?_
      refine AL.r (rd_load_bx rfl ag_3 rfl rfl rfl) ?_
      refine AL.r (rd_arith_add rfl rfl rfl (IntWalk.i64_in _ (by simp only [burnD]; omega))) ?_
      refine AL.r (rd_nilc_bx rfl rfl rfl) ?_
      refine AL.r (rd_faddr_bx rfl fo_99_4 rfl rfl ⟨_, _, rfl⟩) ?_
      refine AL.op rfl (op_store_ rfl rfl rfl rfl rfl sz_3 ?_)
      refine AL.no ?_
      refine AL.nil ?_
      change AW _ _ _ _ _
      refine AW.seq ?_
      refine AW.region ?_
      refine AL.ra ?_
      refine AL.nil ?_
      change AW _ _ _ _ _
      refine AW.ret ?_
      repeat with_reducible first | refine thenA_ret ?_ | refine inBlockA_ret ?_
      with_reducible first | refine retO_ret ?_ | refine retO_normal ?_
      refine reso1D rfl (ResV.tmp rfl) rfl ?_
      first | exact lfD (cut_arg (d := d) (i := 2) (.inl h16)) | exact lfD (cut_arg (d := d) (i := 2) (.inr h26)) | exact lfD (cut_dark (d := d) (i := 2) h16 h26 h31) | exact lfD (cut_burn (d := d) (i := 2) h16 h26 h31 h35) | exact lfD (cut_go (d := d) (i := 2) h16 h26 h31 h35)
theorem append_c3 (b : List UInt8) (h : d.Fit) (hb : b.length ≤ 1099511627776) : ACo Try.prog 19 [.bx 0 g 0, .sc (.int .i64 3), .sl (byA b)] (diskT g g1 g2 g3 g4 g5 g6 g7 g8 g9 d)
    (fun y os' => y = .sc (.int .i64 (appR d b)) ∧ DiskAt g (appD d 3 b) os') := by
  have hbn := burnN_le (n := b.length) h (by omega)
  have hw := h.w
  have hnn := h.n 3
  have hqq := h.q
  refine ACo.of' (st0 := [⟨g, .box 99 [.sc (.int .i64 d.room), .ow 1 g1, .ow 2 g2, .ow 3 g3, .ow 4 g4, .ow 5 g5, .ow 6 g6, .ow 7 g7, .ow 8 g8, .ow 9 g9, .sc (.int .i64 d.waits), .sc (.int .i64 d.done), .sc (.bool d.fused), .sc (.int .i64 d.fuse), .sc (.bool d.dark)]⟩, ⟨g1, owM (d.nf 0) 5 1 (byA (d.n 0))⟩, ⟨g2, owM (d.nf 1) 5 1 (byA (d.n 1))⟩, ⟨g3, owM (d.nf 2) 5 1 (byA (d.n 2))⟩, ⟨g4, owM (d.nf 3) 5 1 (byA (d.n 3))⟩, ⟨g5, owM (d.lf 0) 5 1 (byA (d.l 0))⟩, ⟨g6, owM (d.lf 1) 5 1 (byA (d.l 1))⟩, ⟨g7, owM (d.lf 2) 5 1 (byA (d.l 2))⟩, ⟨g8, owM (d.lf 3) 5 1 (byA (d.l 3))⟩, ⟨g9, owM true 102 4 (d.q.map DeedD.cs)⟩, TK.mk 0 .off, TK.mk 0 .off, TK.mk 0 .off, TK.mk 0 .off, TK.mk 0 .off]) 68 5 Try.func19 rfl 10 ?_
  refine AW.seq ?_
  refine AW.region ?_
  refine AL.ra ?_
  refine AL.nil ?_
  change AW _ _ _ _ _
  refine AW.seq ?_
  refine AW.seq ?_
  refine AW.region ?_
  refine AL.rm ?_
  refine AL.r (rd_peq_bx rfl pt_25 rfl rfl rfl) ?_
  refine AL.nil ?_
  change AW _ _ _ _ _
  refine AW.cond_f rfl ?_
  refine AW.skip ?_
  change AW _ _ _ _ _
  refine AW.seq ?_
  refine AW.seq ?_
  refine AW.region ?_
  refine AL.rm ?_
  refine AL.op rfl (AOpB.op (op_call (right_in (by decide)) rfl (by kernel_rfl) rfl (none) ?_))
  rintro r rfl
  refine AL.no ?_
  refine AL.r (rd_un rfl rfl (fun _ => rfl)) ?_
  refine AL.nil ?_
  change AW _ _ _ _ _
  refine AW.cond_f rfl ?_
  refine AW.skip ?_
  change AW _ _ _ _ _
  refine AW.seq ?_
  refine AW.seq ?_
  refine AW.region ?_
  refine AL.rm ?_
  refine AL.r (rd_nilc_bx rfl rfl rfl) ?_
  refine AL.r (rd_faddr_bx rfl fo_99_8 rfl rfl ⟨_, _, rfl⟩) ?_
  refine AL.r (rd_load_bx rfl ag_4 rfl rfl rfl) ?_
  refine AL.nil ?_
  change AW _ _ _ _ _
  refine AW.cd rfl (fun h16 => ?_) (fun h16 => ?_)
  ·skip
   refine AW.seq ?_
   refine AW.region ?_
   refine AL.ra ?_
   refine AL.nil ?_
   change AW _ _ _ _ _
   refine AW.ret ?_
   repeat with_reducible first | refine thenA_ret ?_ | refine inBlockA_ret ?_
   with_reducible first | refine retO_ret ?_ | refine retO_normal ?_
   refine reso1D rfl (ResV.tmp rfl) rfl ?_
   first | exact lfD (app_dark (b := b) (i := 3) h16) | exact lfD (app_full (i := 3) h16 h21) | exact lfD (app_go (i := 3) h16 h21 h27 h70) | exact lfD (app_no (i := 3) h16 h21 h27 h70)
  ·skip
   refine AW.skip ?_
   change AW _ _ _ _ _
   refine AW.seq ?_
   refine AW.seq ?_
   refine AW.region ?_
   refine AL.rm ?_
   refine AL.r (rd_len_sl rfl el_29 rfl) ?_
   refine AL.rm ?_
   refine AL.op rfl (calloD (left_c d g g1 g2 g3 g4 g5 g6 g7 g8 g9 h.room h.n) [0, 1, 2, 3, 4, 5, 6, 7, 8, 9] ?_)
   rintro y os' ⟨rfl, rfl⟩
   refine AL.noD ?_
   refine AL.r (rd_bin rfl rfl rfl (fun _ => rfl)) ?_
   refine AL.nil ?_
   change AW _ _ _ _ _
   refine AW.cd rfl (fun h21 => ?_) (fun h21 => ?_)
   ·skip
    refine AW.seq ?_
    refine AW.region ?_
    refine AL.ra ?_
    refine AL.nil ?_
    change AW _ _ _ _ _
    refine AW.ret ?_
    repeat with_reducible first | refine thenA_ret ?_ | refine inBlockA_ret ?_
    with_reducible first | refine retO_ret ?_ | refine retO_normal ?_
    refine reso1D rfl (ResV.tmp rfl) rfl ?_
    first | exact lfD (app_dark (b := b) (i := 3) h16) | exact lfD (app_full (i := 3) h16 h21) | exact lfD (app_go (i := 3) h16 h21 h27 h70) | exact lfD (app_no (i := 3) h16 h21 h27 h70)
   ·skip
    refine AW.skip ?_
    change AW _ _ _ _ _
    refine AW.seq ?_
    refine AW.region ?_
    refine AL.rm ?_
    refine AL.rm ?_
    refine AL.r (rd_len_sl rfl el_29 rfl) ?_
    refine AL.op rfl (calloD (burn_c d g g1 g2 g3 g4 g5 g6 g7 g8 g9 (b.length : Int) h.fuse (by omega)) [0, 1, 2, 3, 4, 5, 6, 7, 8, 9] ?_)
    rintro y os' ⟨rfl, rfl⟩
    refine AL.noD ?_
    refine AL.ra ?_
    refine AL.nil ?_
    change AW _ _ _ _ _
    refine AW.seq ?_
    refine AW.seq ?_
    refine AW.region ?_
    refine AL.rm ?_
    refine AL.r (rd_bin rfl rfl rfl (fun _ => rfl)) ?_
    refine AL.nil ?_
    change AW _ _ _ _ _
    refine AW.cd rfl (fun h27 => ?_) (fun h27 => ?_)
    ·skip
     refine AW.seq ?_
     apply AW.drawS (by kernel_rfl)
     ·skip
      refine ADA.r 0 rfl (ARdP.a (rdP_move rfl rfl)) rfl ?_
      refine ADA.r 1 rfl (ARdP.a (rdP_move rfl rfl)) rfl ?_
      refine ADA.r 2 rfl (ARdP.a (rdP_move rfl rfl)) rfl ?_
      refine ADA.r 3 rfl (ARdP.a (rdP_move rfl rfl)) rfl ?_
      refine ADA.r 4 rfl (ARdP.a (rdP_nilc_bx rfl rfl rfl)) rfl ?_
      refine ADA.r 5 rfl (ARdP.a (rdP_faddr_bx rfl fo_99_1 rfl rfl ⟨_, _, rfl⟩)) rfl ?_
      refine ADA.r 6 rfl (ARdP.a (rdP_iaddr_bx_ 3 rfl ar_37 rfl rfl rfl)) rfl ?_
      refine ADA.r 8 rfl (ARdP.a (rdP_move rfl rfl)) rfl ?_
      refine ADA.r 9 rfl (ARdP.a (rdP_move rfl rfl)) rfl ?_
      refine ADA.r 10 rfl (ARdP.a (rdP_slice_sl rfl el_29 rfl byA_one rfl ⟨_, _, rfl, (Int.toNat_of_nonneg (by omega)).symm⟩ (by omega) (by simp only [byA_len]; omega))) rfl ?_
      refine ADA.r 12 rfl (ARdP.a (rdP_nilc_bx rfl rfl rfl)) rfl ?_
      refine ADA.r 13 rfl (ARdP.a (rdP_faddr_bx rfl fo_99_1 rfl rfl ⟨_, _, rfl⟩)) rfl ?_
      refine ADA.b ?_
      refine ADB.mv 7 rfl (AOpB.op (ARd.opB (rd_load_bx rfl ag_29 rfl rfl rfl) ?_))
      refine ADB.n ?_
      refine ADB.mv 11 rfl (op_appendM rfl ap_29 rfl rfl (src_s rfl) (by simp only [byA_len, burnD, List.length_drop, List.length_take]; omega) (by simp only [byA_len, burnD, List.length_drop, List.length_take]; omega) ?_)
      refine ADB.n ?_
      refine ADB.r 14 rfl (rdP_iaddr_bx_ 3 rfl ar_37 rfl rfl rfl) rfl ?_
      refine ADB.mv 15 rfl (op_storo rfl rfl rfl rfl rfl sz_29 ?_)
      refine ADB.n ?_
      refine ADB.done (by kernel_rfl) ?_
      exact ⟨rfl, rfl⟩
     skip
     change AW _ _ _ _ _
     refine AW.seq ?_
     apply AW.drawS (by kernel_rfl)
     ·skip
      refine ADA.r 0 rfl (ARdP.a (rdP_move rfl rfl)) rfl ?_
      refine ADA.r 1 rfl (ARdP.a (rdP_move rfl rfl)) rfl ?_
      refine ADA.r 2 rfl (ARdP.a (rdP_nilc_bx rfl rfl rfl)) rfl ?_
      refine ADA.r 3 rfl (ARdP.a (rdP_faddr_bx rfl fo_99_3 rfl rfl ⟨_, _, rfl⟩)) rfl ?_
      refine ADA.r 5 rfl (ARdP.a (rdP_move rfl rfl)) rfl ?_
      refine ADA.r 7 rfl (ARdP.a (rdP_move rfl rfl)) rfl ?_
      refine ADA.r 8 rfl (ARdP.a (rdP_move rfl rfl)) rfl ?_
      refine ADA.r 9 rfl (ARdP.a (rdP_slice_sl rfl el_29 rfl byA_one rfl ⟨_, _, rfl, (Int.toNat_of_nonneg (by omega)).symm⟩ (by omega) (by simp only [byA_len]; omega))) rfl ?_
      refine ADA.b ?_
      refine ADB.all (is := [4, 6]) (by kernel_rfl) (by simp) ?_
      intro i hi
      simp only [List.mem_cons, List.not_mem_nil, or_false] at hi
      rcases hi with rfl | rfl
      ·skip
       refine ⟨_, rfl, rfl, AOpB.op (ARd.opB (rd_load_bx rfl ag_97 rfl rfl rfl) ?_)⟩
       refine ADB.n ?_
       refine ADB.mv 6 rfl (AOpB.op (bs_own 11 rfl ap_29 ze_5 rfl rfl rfl ?_))
       refine ADB.n ?_
       refine ADB.mv 10 rfl (op_append rfl ap_29 rfl rfl (src_s rfl) (by simp [byA_len]; omega) (by simp [byA_len]; omega) ?_)
       refine ADB.n ?_
       refine ADB.settle 53 rfl rfl (by first | rfl | exact cont_owM _ _ _ _) ?_
       refine ADB.n ?_
       refine ADB.r 11 rfl (rdP_build rfl pl_102 ze_102 rfl rfl) rfl ?_
       refine ADB.mv 12 rfl (AOpB.op (bs_set rfl ap_97 ze_102 rfl rfl ?_))
       refine ADB.n ?_
       refine ADB.mv 13 rfl (op_appendM rfl ap_97 rfl rfl (src_s rfl) (by simp [burnD]; omega) (by simp [burnD]; omega) ?_)
       refine ADB.n ?_
       refine ADB.r 14 rfl (rdP_nilc_bx rfl rfl rfl) rfl ?_
       refine ADB.r 15 rfl (rdP_faddr_bx rfl fo_99_3 rfl rfl ⟨_, _, rfl⟩) rfl ?_
       refine ADB.mv 16 rfl (op_storo rfl rfl rfl rfl rfl sz_97 ?_)
       refine ADB.n ?_
       refine ADB.done (by kernel_rfl) ?_
       exact ⟨rfl, rfl⟩
      ·skip
       refine ⟨_, rfl, rfl, AOpB.op (bs_own 11 rfl ap_29 ze_5 rfl rfl rfl ?_)⟩
       refine ADB.n ?_
       refine ADB.all (is := [4, 10]) (by kernel_rfl) (by simp) ?_
       intro i hi
       simp only [List.mem_cons, List.not_mem_nil, or_false] at hi
       rcases hi with rfl | rfl
       ·skip
        refine ⟨_, rfl, rfl, AOpB.op (ARd.opB (rd_load_bx rfl ag_97 rfl rfl rfl) ?_)⟩
        refine ADB.n ?_
        refine ADB.mv 10 rfl (op_append rfl ap_29 rfl rfl (src_s rfl) (by simp [byA_len]; omega) (by simp [byA_len]; omega) ?_)
        refine ADB.n ?_
        refine ADB.settle 53 rfl rfl (by first | rfl | exact cont_owM _ _ _ _) ?_
        refine ADB.n ?_
        refine ADB.r 11 rfl (rdP_build rfl pl_102 ze_102 rfl rfl) rfl ?_
        refine ADB.mv 12 rfl (AOpB.op (bs_set rfl ap_97 ze_102 rfl rfl ?_))
        refine ADB.n ?_
        refine ADB.mv 13 rfl (op_appendM rfl ap_97 rfl rfl (src_s rfl) (by simp [burnD]; omega) (by simp [burnD]; omega) ?_)
        refine ADB.n ?_
        refine ADB.r 14 rfl (rdP_nilc_bx rfl rfl rfl) rfl ?_
        refine ADB.r 15 rfl (rdP_faddr_bx rfl fo_99_3 rfl rfl ⟨_, _, rfl⟩) rfl ?_
        refine ADB.mv 16 rfl (op_storo rfl rfl rfl rfl rfl sz_97 ?_)
        refine ADB.n ?_
        refine ADB.done (by kernel_rfl) ?_
        exact ⟨rfl, rfl⟩
       ·skip
        refine ⟨_, rfl, rfl, op_append rfl ap_29 rfl rfl (src_s rfl) (by simp [byA_len]; omega) (by simp [byA_len]; omega) ?_⟩
        refine ADB.n ?_
        refine ADB.settle 53 rfl rfl (by first | rfl | exact cont_owM _ _ _ _) ?_
        refine ADB.n ?_
        refine ADB.r 11 rfl (rdP_build rfl pl_102 ze_102 rfl rfl) rfl ?_
        refine ADB.all (is := [4, 12]) (by kernel_rfl) (by simp) ?_
        intro i hi
        simp only [List.mem_cons, List.not_mem_nil, or_false] at hi
        rcases hi with rfl | rfl
        ·skip
         refine ⟨_, rfl, rfl, AOpB.op (ARd.opB (rd_load_bx rfl ag_97 rfl rfl rfl) ?_)⟩
         refine ADB.n ?_
         refine ADB.mv 12 rfl (AOpB.op (bs_set rfl ap_97 ze_102 rfl rfl ?_))
         refine ADB.n ?_
         refine ADB.mv 13 rfl (op_appendM rfl ap_97 rfl rfl (src_s rfl) (by simp [burnD]; omega) (by simp [burnD]; omega) ?_)
         refine ADB.n ?_
         refine ADB.r 14 rfl (rdP_nilc_bx rfl rfl rfl) rfl ?_
         refine ADB.r 15 rfl (rdP_faddr_bx rfl fo_99_3 rfl rfl ⟨_, _, rfl⟩) rfl ?_
         refine ADB.mv 16 rfl (op_storo rfl rfl rfl rfl rfl sz_97 ?_)
         refine ADB.n ?_
         refine ADB.done (by kernel_rfl) ?_
         exact ⟨rfl, rfl⟩
        ·skip
         refine ⟨_, rfl, rfl, AOpB.op (bs_set rfl ap_97 ze_102 rfl rfl ?_)⟩
         refine ADB.n ?_
         refine ADB.mv 4 rfl (AOpB.op (ARd.opB (rd_load_bx rfl ag_97 rfl rfl rfl) ?_))
         refine ADB.n ?_
         refine ADB.mv 13 rfl (op_appendM rfl ap_97 rfl rfl (src_s rfl) (by simp [burnD]; omega) (by simp [burnD]; omega) ?_)
         refine ADB.n ?_
         refine ADB.r 14 rfl (rdP_nilc_bx rfl rfl rfl) rfl ?_
         refine ADB.r 15 rfl (rdP_faddr_bx rfl fo_99_3 rfl rfl ⟨_, _, rfl⟩) rfl ?_
         refine ADB.mv 16 rfl (op_storo rfl rfl rfl rfl rfl sz_97 ?_)
         refine ADB.n ?_
         refine ADB.done (by kernel_rfl) ?_
         exact ⟨rfl, rfl⟩
     skip
     change AW _ _ _ _ _
     refine AW.region ?_
     refine AL.rm ?_
     refine AL.r (rd_nilc_bx rfl rfl rfl) ?_
     refine AL.r (rd_faddr_bx rfl fo_99_4 rfl rfl ⟨_, _, rfl⟩) ?_
     refine AL.r (rd_load_bx rfl ag_3 rfl rfl rfl) ?_
     refine AL.rm ?_
     refine AL.r (rd_arith_add rfl rfl rfl (IntWalk.i64_in _ (by simp only [burnD]; omega))) ?_
     refine AL.r (rd_nilc_bx rfl rfl rfl) ?_
     refine AL.r (rd_faddr_bx rfl fo_99_4 rfl rfl ⟨_, _, rfl⟩) ?_
     refine AL.op rfl (op_store_ rfl rfl rfl rfl rfl sz_3 ?_)
     refine AL.no ?_
     refine AL.nil ?_
     change AW _ _ _ _ _
     refine AW.seq ?_
     refine AW.seq ?_
     refine AW.region ?_
     refine AL.rm ?_
     refine AL.r (rd_nilc_bx rfl rfl rfl) ?_
     refine AL.r (rd_faddr_bx rfl fo_99_8 rfl rfl ⟨_, _, rfl⟩) ?_
     refine AL.r (rd_load_bx rfl ag_4 rfl rfl rfl) ?_
     refine AL.nil ?_
     change AW _ _ _ _ _
     refine AW.cd rfl (fun h70 => ?_) (fun h70 => ?_)
     ·skip
      refine AW.seq ?_
      refine AW.region ?_
      refine AL.ra ?_
      refine AL.nil ?_
      change AW _ _ _ _ _
      refine AW.ret ?_
      repeat with_reducible first | refine thenA_ret ?_ | refine inBlockA_ret ?_
      with_reducible first | refine retO_ret ?_ | refine retO_normal ?_
      refine reso1D rfl (ResV.tmp rfl) rfl ?_
      first | exact lfD (app_dark (b := b) (i := 3) h16) | exact lfD (app_full (i := 3) h16 h21) | exact lfD (app_go (i := 3) h16 h21 h27 h70) | exact lfD (app_no (i := 3) h16 h21 h27 h70)
     ·skip
      refine AW.skip ?_
      change AW _ _ _ _ _
      refine AW.seq ?_
      refine AW.region ?_
      refine AL.ra ?_
      refine AL.nil ?_
      change AW _ _ _ _ _
      refine AW.ret ?_
      repeat with_reducible first | refine thenA_ret ?_ | refine inBlockA_ret ?_
      with_reducible first | refine retO_ret ?_ | refine retO_normal ?_
      refine reso1D rfl (ResV.tmp rfl) rfl ?_
      first | exact lfD (app_dark (b := b) (i := 3) h16) | exact lfD (app_full (i := 3) h16 h21) | exact lfD (app_go (i := 3) h16 h21 h27 h70) | exact lfD (app_no (i := 3) h16 h21 h27 h70)
    ·skip
     refine AW.skip ?_
     change AW _ _ _ _ _
     refine AW.seq ?_
     refine AW.seq ?_
     refine AW.region ?_
     refine AL.rm ?_
     refine AL.r (rd_nilc_bx rfl rfl rfl) ?_
     refine AL.r (rd_faddr_bx rfl fo_99_8 rfl rfl ⟨_, _, rfl⟩) ?_
     refine AL.r (rd_load_bx rfl ag_4 rfl rfl rfl) ?_
     refine AL.nil ?_
     change AW _ _ _ _ _
     refine AW.cd rfl (fun h70 => ?_) (fun h70 => ?_)
     ·skip
      refine AW.seq ?_
      refine AW.region ?_
      refine AL.ra ?_
      refine AL.nil ?_
      change AW _ _ _ _ _
      refine AW.ret ?_
      repeat with_reducible first | refine thenA_ret ?_ | refine inBlockA_ret ?_
      with_reducible first | refine retO_ret ?_ | refine retO_normal ?_
      refine reso1D rfl (ResV.tmp rfl) rfl ?_
      first | exact lfD (app_dark (b := b) (i := 3) h16) | exact lfD (app_full (i := 3) h16 h21) | exact lfD (app_go (i := 3) h16 h21 h27 h70) | exact lfD (app_no (i := 3) h16 h21 h27 h70)
     ·skip
      refine AW.skip ?_
      change AW _ _ _ _ _
      refine AW.seq ?_
      refine AW.region ?_
      refine AL.ra ?_
      refine AL.nil ?_
      change AW _ _ _ _ _
      refine AW.ret ?_
      repeat with_reducible first | refine thenA_ret ?_ | refine inBlockA_ret ?_
      with_reducible first | refine retO_ret ?_ | refine retO_normal ?_
      refine reso1D rfl (ResV.tmp rfl) rfl ?_
      first | exact lfD (app_dark (b := b) (i := 3) h16) | exact lfD (app_full (i := 3) h16 h21) | exact lfD (app_go (i := 3) h16 h21 h27 h70) | exact lfD (app_no (i := 3) h16 h21 h27 h70)
theorem cut_c3 (n : Int) (h : d.Fit) : ACo Try.prog 26 [.bx 0 g 0, .sc (.int .i64 3), .sc (.int .i64 n)] (diskT g g1 g2 g3 g4 g5 g6 g7 g8 g9 d)
    (fun y os' => y = .sc (.int .i64 (cutR d 3 n)) ∧ DiskAt g (cutD d 3 n) os') := by
  have hbn := burnN_le (n := 1) h (by omega)
  have hw := h.w
  have hnn := h.n 3
  have hqq := h.q
  refine ACo.of' (st0 := [⟨g, .box 99 [.sc (.int .i64 d.room), .ow 1 g1, .ow 2 g2, .ow 3 g3, .ow 4 g4, .ow 5 g5, .ow 6 g6, .ow 7 g7, .ow 8 g8, .ow 9 g9, .sc (.int .i64 d.waits), .sc (.int .i64 d.done), .sc (.bool d.fused), .sc (.int .i64 d.fuse), .sc (.bool d.dark)]⟩, ⟨g1, owM (d.nf 0) 5 1 (byA (d.n 0))⟩, ⟨g2, owM (d.nf 1) 5 1 (byA (d.n 1))⟩, ⟨g3, owM (d.nf 2) 5 1 (byA (d.n 2))⟩, ⟨g4, owM (d.nf 3) 5 1 (byA (d.n 3))⟩, ⟨g5, owM (d.lf 0) 5 1 (byA (d.l 0))⟩, ⟨g6, owM (d.lf 1) 5 1 (byA (d.l 1))⟩, ⟨g7, owM (d.lf 2) 5 1 (byA (d.l 2))⟩, ⟨g8, owM (d.lf 3) 5 1 (byA (d.l 3))⟩, ⟨g9, owM true 102 4 (d.q.map DeedD.cs)⟩, TK.mk 0 .off, TK.mk 0 .off]) 65 2 Try.func26 rfl 10 ?_
  refine AW.seq ?_
  refine AW.region ?_
  refine AL.ra ?_
  refine AL.nil ?_
  change AW _ _ _ _ _
  refine AW.seq ?_
  refine AW.seq ?_
  refine AW.region ?_
  refine AL.rm ?_
  refine AL.r (rd_peq_bx rfl pt_25 rfl rfl rfl) ?_
  refine AL.nil ?_
  change AW _ _ _ _ _
  refine AW.cond_f rfl ?_
  refine AW.skip ?_
  change AW _ _ _ _ _
  refine AW.seq ?_
  refine AW.seq ?_
  refine AW.region ?_
  refine AL.rm ?_
  refine AL.op rfl (AOpB.op (op_call (right_in (by decide)) rfl (by kernel_rfl) rfl (none) ?_))
  rintro r rfl
  refine AL.no ?_
  refine AL.r (rd_un rfl rfl (fun _ => rfl)) ?_
  refine AL.rm ?_
  refine AL.ro (rd_move rfl rfl) ?_
  refine AL.ro (rd_bin rfl rfl rfl (fun _ => rfl)) ?_
  refine AL.r (rd_pick_f rfl rfl rfl) ?_
  refine AL.rm ?_
  refine AL.fk (d := 16) rfl (fun h16 => ?_) (fun h16 => ?_)
  ·skip
   refine AL.n ?_
   refine AL.rf ?_
   refine AL.rf ?_
   refine AL.rf ?_
   refine AL.rf ?_
   refine AL.rf ?_
   refine AL.rf ?_
   refine AL.rf ?_
   refine AL.rf ?_
   refine AL.rf ?_
   refine AL.r (rd_pick_t rfl rfl rfl) ?_
   refine AL.nil ?_
   change AW _ _ _ _ _
   refine AW.cond_t rfl ?_
   refine AW.seq ?_
   refine AW.region ?_
   refine AL.ra ?_
   refine AL.nil ?_
   change AW _ _ _ _ _
   refine AW.ret ?_
   repeat with_reducible first | refine thenA_ret ?_ | refine inBlockA_ret ?_
   with_reducible first | refine retO_ret ?_ | refine retO_normal ?_
   refine reso1D rfl (ResV.tmp rfl) rfl ?_
   first | exact lfD (cut_arg (d := d) (i := 3) (.inl h16)) | exact lfD (cut_arg (d := d) (i := 3) (.inr h26)) | exact lfD (cut_dark (d := d) (i := 3) h16 h26 h31) | exact lfD (cut_burn (d := d) (i := 3) h16 h26 h31 h35) | exact lfD (cut_go (d := d) (i := 3) h16 h26 h31 h35)
  ·skip
   refine AL.n ?_
   refine AL.ro (rd_move rfl rfl) ?_
   refine AL.ro (rd_move rfl rfl) ?_
   refine AL.ro (rd_move rfl rfl) ?_
   refine AL.ro (rd_nilc_bx rfl rfl rfl) ?_
   refine AL.ro (rd_faddr_bx rfl fo_99_1 rfl rfl ⟨_, _, rfl⟩) ?_
   refine AL.ro (rd_iaddr_bx_ 3 rfl ar_37 rfl rfl rfl) ?_
   refine AL.ro (rd_load_bx rfl ag_29 rfl rfl rfl) ?_
   refine AL.ro (rd_len_owM rfl el_29 rfl rfl) ?_
   refine AL.ro (rd_bin rfl rfl rfl (fun _ => rfl)) ?_
   refine AL.r (rd_pick_f rfl rfl rfl) ?_
   refine AL.nil ?_
   change AW _ _ _ _ _
   refine AW.cd rfl (fun h26 => ?_) (fun h26 => ?_)
   ·skip
    refine AW.seq ?_
    refine AW.region ?_
    refine AL.ra ?_
    refine AL.nil ?_
    change AW _ _ _ _ _
    refine AW.ret ?_
    repeat with_reducible first | refine thenA_ret ?_ | refine inBlockA_ret ?_
    with_reducible first | refine retO_ret ?_ | refine retO_normal ?_
    refine reso1D rfl (ResV.tmp rfl) rfl ?_
    first | exact lfD (cut_arg (d := d) (i := 3) (.inl h16)) | exact lfD (cut_arg (d := d) (i := 3) (.inr h26)) | exact lfD (cut_dark (d := d) (i := 3) h16 h26 h31) | exact lfD (cut_burn (d := d) (i := 3) h16 h26 h31 h35) | exact lfD (cut_go (d := d) (i := 3) h16 h26 h31 h35)
   ·skip
    refine AW.skip ?_
    change AW _ _ _ _ _
    refine AW.seq ?_
    refine AW.seq ?_
    refine AW.region ?_
    obtain ⟨m, rfl⟩ : ∃ m : Nat, n = (m : Int) := ⟨n.toNat, (by omega)⟩
    refine AL.rm ?_
    refine AL.r (rd_nilc_bx rfl rfl rfl) ?_
    refine AL.r (rd_faddr_bx rfl fo_99_8 rfl rfl ⟨_, _, rfl⟩) ?_
    refine AL.r (rd_load_bx rfl ag_4 rfl rfl rfl) ?_
    refine AL.rm ?_
    refine AL.fk (d := 31) rfl (fun h31 => ?_) (fun h31 => ?_)
    ·skip
     refine AL.n ?_
     refine AL.rf ?_
     refine AL.rf ?_
     refine AL.rf ?_
     refine AL.r (rd_pick_t rfl rfl rfl) ?_
     refine AL.nil ?_
     change AW _ _ _ _ _
     refine AW.cond_t rfl ?_
     refine AW.seq ?_
     refine AW.region ?_
     refine AL.ra ?_
     refine AL.nil ?_
     change AW _ _ _ _ _
     refine AW.ret ?_
     repeat with_reducible first | refine thenA_ret ?_ | refine inBlockA_ret ?_
     with_reducible first | refine retO_ret ?_ | refine retO_normal ?_
     refine reso1D rfl (ResV.tmp rfl) rfl ?_
     first | exact lfD (cut_arg (d := d) (i := 3) (.inl h16)) | exact lfD (cut_arg (d := d) (i := 3) (.inr h26)) | exact lfD (cut_dark (d := d) (i := 3) h16 h26 h31) | exact lfD (cut_burn (d := d) (i := 3) h16 h26 h31 h35) | exact lfD (cut_go (d := d) (i := 3) h16 h26 h31 h35)
    ·skip
     refine AL.n ?_
     refine AL.ro (rd_move rfl rfl) ?_
     refine AL.on rfl rfl rfl (calloD (burn_c d g g1 g2 g3 g4 g5 g6 g7 g8 g9 1 h.fuse (by omega)) [0, 1, 2, 3, 4, 5, 6, 7, 8, 9] ?_)
     rintro y os' ⟨rfl, rfl⟩
     refine AL.noD ?_
     refine AL.ro (rd_bin rfl rfl rfl (fun _ => rfl)) ?_
     refine AL.r (rd_pick_f rfl rfl rfl) ?_
     refine AL.nil ?_
     change AW _ _ _ _ _
     refine AW.cd rfl (fun h35 => ?_) (fun h35 => ?_)
     ·skip
      refine AW.seq ?_
      refine AW.region ?_
      refine AL.ra ?_
      refine AL.nil ?_
      change AW _ _ _ _ _
      refine AW.ret ?_
      repeat with_reducible first | refine thenA_ret ?_ | refine inBlockA_ret ?_
      with_reducible first | refine retO_ret ?_ | refine retO_normal ?_
      refine reso1D rfl (ResV.tmp rfl) rfl ?_
      first | exact lfD (cut_arg (d := d) (i := 3) (.inl h16)) | exact lfD (cut_arg (d := d) (i := 3) (.inr h26)) | exact lfD (cut_dark (d := d) (i := 3) h16 h26 h31) | exact lfD (cut_burn (d := d) (i := 3) h16 h26 h31 h35) | exact lfD (cut_go (d := d) (i := 3) h16 h26 h31 h35)
     ·skip
      refine AW.skip ?_
      change AW _ _ _ _ _
      refine AW.seq ?_
      apply AW.drawS (by kernel_rfl)
      ·skip
       refine ADA.r 0 rfl (ARdP.a (rdP_move rfl rfl)) rfl ?_
       refine ADA.r 1 rfl (ARdP.a (rdP_move rfl rfl)) rfl ?_
       refine ADA.r 2 rfl (ARdP.a (rdP_move rfl rfl)) rfl ?_
       refine ADA.r 3 rfl (ARdP.a (rdP_move rfl rfl)) rfl ?_
       refine ADA.r 4 rfl (ARdP.a (rdP_nilc_bx rfl rfl rfl)) rfl ?_
       refine ADA.r 5 rfl (ARdP.a (rdP_faddr_bx rfl fo_99_1 rfl rfl ⟨_, _, rfl⟩)) rfl ?_
       refine ADA.r 6 rfl (ARdP.a (rdP_iaddr_bx_ 3 rfl ar_37 rfl rfl rfl)) rfl ?_
       refine ADA.r 8 rfl (ARdP.a (rdP_move rfl rfl)) rfl ?_
       refine ADA.r 10 rfl (ARdP.a (rdP_nilc_bx rfl rfl rfl)) rfl ?_
       refine ADA.r 11 rfl (ARdP.a (rdP_faddr_bx rfl fo_99_1 rfl rfl ⟨_, _, rfl⟩)) rfl ?_
       refine ADA.b ?_
       refine ADB.mv 7 rfl (AOpB.op (ARd.opB (rd_load_bx rfl ag_29 rfl rfl rfl) ?_))
       refine ADB.n ?_
       refine ADB.mv 9 rfl (AOpB.op (op_sliceM (n := m) rfl el_29 rfl rfl rfl rfl (by simp only [byA_len, burnD]; omega) ?_))
       refine ADB.n ?_
       refine ADB.r 12 rfl (rdP_iaddr_bx_ 3 rfl ar_37 rfl rfl rfl) rfl ?_
       refine ADB.mv 13 rfl (op_storo rfl rfl rfl rfl rfl sz_29 ?_)
       refine ADB.n ?_
       refine ADB.done (by kernel_rfl) ?_
       exact ⟨rfl, rfl⟩
      skip
      change AW _ _ _ _ _
      refine AW.seq ?_
      refine AW.region ?_
      refine AL.rm ?_
      refine AL.rm ?_
      refine AL.r (rd_nilc_bx rfl rfl rfl) ?_
      refine AL.r (rd_faddr_bx rfl fo_99_3 rfl rfl ⟨_, _, rfl⟩) ?_
      refine AL.r (rd_load_bx rfl ag_97 rfl rfl rfl) ?_
      refine AL.rm ?_
      refine AL.rm ?_
      refine AL.r (rd_build rfl pl_102 ze_102 rfl rfl) ?_
      refine AL.op rfl (AOpB.op (bs_set rfl ap_97 ze_102 rfl rfl ?_))
      refine AL.no ?_
      refine AL.op rfl (op_appendM rfl ap_97 rfl rfl (src_s rfl) (by simp [burnD]; omega) (by simp [burnD]; omega) ?_)
      refine AL.no ?_
      refine AL.r (rd_nilc_bx rfl rfl rfl) ?_
      refine AL.r (rd_faddr_bx rfl fo_99_3 rfl rfl ⟨_, _, rfl⟩) ?_
      refine AL.op rfl (op_storo rfl rfl rfl rfl rfl sz_97 ?_)
      refine AL.no ?_
      refine AL.nil ?_
      change AW _ _ _ _ _
      refine AW.seq ?_
      refine AW.region ?_
      refine AL.rm ?_
      refine AL.r (rd_nilc_bx rfl rfl rfl) ?_
      refine AL.r (rd_faddr_bx rfl fo_99_4 rfl rfl ⟨_, _, rfl⟩) ?_
      refine AL.r (rd_load_bx rfl ag_3 rfl rfl rfl) ?_
      refine AL.r (rd_arith_add rfl rfl rfl (IntWalk.i64_in _ (by simp only [burnD]; omega))) ?_
      refine AL.r (rd_nilc_bx rfl rfl rfl) ?_
      refine AL.r (rd_faddr_bx rfl fo_99_4 rfl rfl ⟨_, _, rfl⟩) ?_
      refine AL.op rfl (op_store_ rfl rfl rfl rfl rfl sz_3 ?_)
      refine AL.no ?_
      refine AL.nil ?_
      change AW _ _ _ _ _
      refine AW.seq ?_
      refine AW.region ?_
      refine AL.ra ?_
      refine AL.nil ?_
      change AW _ _ _ _ _
      refine AW.ret ?_
      repeat with_reducible first | refine thenA_ret ?_ | refine inBlockA_ret ?_
      with_reducible first | refine retO_ret ?_ | refine retO_normal ?_
      refine reso1D rfl (ResV.tmp rfl) rfl ?_
      first | exact lfD (cut_arg (d := d) (i := 3) (.inl h16)) | exact lfD (cut_arg (d := d) (i := 3) (.inr h26)) | exact lfD (cut_dark (d := d) (i := 3) h16 h26 h31) | exact lfD (cut_burn (d := d) (i := 3) h16 h26 h31 h35) | exact lfD (cut_go (d := d) (i := 3) h16 h26 h31 h35)
end
end Go.Proofs.Ytgjpeldgjpgbcaa
/- The disk's function settle, over abstract states. -/
namespace Go.Proofs.Ytgjpeldgjpgbcaa
set_option linter.unusedSimpArgs false
set_option linter.unusedVariables false
set_option maxRecDepth 100000
open Go.RowKit

def DeedD.count (w : DeedD) : Nat := if w.cut then 1 else w.bytes.length
theorem count_c (w : DeedD) : AC Try.prog 90 [.ag [.sc (.int .i64 (w.file : Int)), .sc (.bool w.cut), .sc (.int .i64 (w.size : Int)), .sl (byA w.bytes)]] (fun r => r = .s (.sc (.int .i64 (w.count : Int)))) := by
  refine AC.of' 7 1 Try.func90 rfl ?_
  change AW _ _ _ _ [TK.mk 0 .off]
  refine AW.seq ?_
  refine AW.region ?_
  refine AL.op rfl (AOpB.op (op_box 0 rfl rfl rfl rfl rfl ?_))
  refine AL.n ?_
  refine AL.ra ?_
  refine AL.nil ?_
  change AW _ _ _ _ _
  refine AW.seq ?_
  refine AW.seq ?_
  refine AW.region ?_
  refine AL.r (rd_faddr_bx rfl fo_102_1 rfl rfl ⟨_, _, rfl⟩) ?_
  refine AL.r (rd_load_bx rfl ag_4 rfl rfl rfl) ?_
  refine AL.nil ?_
  change AW _ _ _ _ _
  refine AW.cd rfl (fun h4 => ?_) (fun h4 => ?_)
  ·skip
   refine AW.seq ?_
   refine AW.region ?_
   refine AL.ra ?_
   refine AL.nil ?_
   change AW _ _ _ _ _
   refine AW.ret ?_
   change ResA _ _ _ _ _
   refine res1 rfl (ResV.tmp rfl) rfl ?_
   simp [DeedD.count, h4, byA_len]
  ·skip
   refine AW.skip ?_
   change AW _ _ _ _ _
   refine AW.seq ?_
   refine AW.region ?_
   refine AL.r (rd_faddr_bx rfl fo_102_3 rfl rfl ⟨_, _, rfl⟩) ?_
   refine AL.r (rd_load_bx rfl ag_29 rfl rfl rfl) ?_
   refine AL.r (rd_len_sl rfl el_29 rfl) ?_
   refine AL.ra ?_
   refine AL.nil ?_
   change AW _ _ _ _ _
   refine AW.ret ?_
   change ResA _ _ _ _ _
   refine res1 rfl (ResV.tmp rfl) rfl ?_
   simp [DeedD.count, h4, byA_len]
abbrev LS := (Nat → List UInt8) × (Nat → Bool)
def stepL (w : DeedD) (n : Nat) (s : LS) : LS := if w.cut then (upd s.1 w.file ((s.1 w.file).take w.size), upd s.2 w.file (s.2 w.file && (byA (s.1 w.file)).isEmpty)) else (upd s.1 w.file (s.1 w.file ++ w.bytes.take n), s.2)
def cntN (w : DeedD) (kp : Int) : Int := if kp < (w.count : Int) then kp else (w.count : Int)
def settleL : List DeedD → Int → LS → LS
  | [], _, s => s
  | w :: q, kp, s => if cntN w kp ≤ 0 then s else settleL q (kp - cntN w kp) (stepL w (cntN w kp).toNat s)
def okq : List DeedD → LS → Prop
  | [], _ => True
  | w :: q, s => w.file < 4 ∧ (w.cut = true → w.size ≤ (s.1 w.file).length) ∧ okq q (stepL w w.count s)
def qb : List DeedD → Nat
  | [] => 0
  | w :: q => w.bytes.length + qb q
def settleD (d : DiskD) (keep : Int) : DiskD := { d with l := (settleL d.q keep (d.l, d.lf)).1, lf := (settleL d.q keep (d.l, d.lf)).2, q := [], waits := 0 }
theorem drop_get {q : List DeedD} {j : Nat} (h : j < q.length) : q.drop j = q[j] :: q.drop (j + 1) := List.drop_eq_getElem_cons h
theorem cntN_full {w : DeedD} {kp : Int} (h : 0 < cntN w kp) : (kp - cntN w kp ≤ 0) ∨ (cntN w kp).toNat = w.count := by
  unfold cntN at *
  split <;> omega
structure SetJ (d : DiskD) (keep : Int) (j : Nat) (kp : Int) (s : LS) : Prop where
  jl : j ≤ d.q.length
  e : settleL d.q keep (d.l, d.lf) = settleL (d.q.drop j) kp s
  ok : kp ≤ 0 ∨ okq (d.q.drop j) s
  k : -9223372036854775808 ≤ kp ∧ kp < 9223372036854775808
  b : ∀ i, (s.1 i).length + qb (d.q.drop j) ≤ 1099511627776
theorem len_step {w : DeedD} {n : Nat} {s : LS} (i : Nat) : ((stepL w n s).1 i).length ≤ (s.1 i).length + w.bytes.length := by
  unfold stepL upd
  split
  · simp only
    split
    · rename_i e; rw [e]; simp; omega
    · omega
  · simp only
    split
    · rename_i e; rw [e]; simp; omega
    · omega
theorem SetJ.next {d : DiskD} {keep : Int} {j : Nat} {kp : Int} {s : LS} (h : SetJ d keep j kp s) (hj : j < d.q.length) (h0 : 0 < cntN d.q[j] kp) : SetJ d keep (j + 1) (kp - cntN d.q[j] kp) (stepL d.q[j] (cntN d.q[j] kp).toNat s) := by
  have hd := drop_get hj
  have hle : cntN d.q[j] kp ≤ kp := by unfold cntN; split <;> omega
  refine ⟨hj, ?_, ?_, ?_, fun i => ?_⟩
  · rw [h.e, hd, settleL, if_neg (by omega)]
  · rcases cntN_full h0 with e | e
    · exact .inl e
    · rcases h.ok with h1 | h1
      · exact .inl (by omega)
      · rw [hd] at h1; rw [e]; exact .inr h1.2.2
  · have := h.k; omega
  · have h1 := h.b i
    rw [hd] at h1
    have h2 := len_step (w := d.q[j]) (n := (cntN d.q[j] kp).toNat) (s := s) i
    simp only [qb] at h1
    omega
theorem SetJ.ok' {d : DiskD} {keep : Int} {j : Nat} {kp : Int} {s : LS} (h : SetJ d keep j kp s) (hj : j < d.q.length) (h0 : 0 < cntN d.q[j] kp) : d.q[j].file < 4 ∧ (d.q[j].cut = true → d.q[j].size ≤ (s.1 d.q[j].file).length) ∧ (s.1 d.q[j].file).length + d.q[j].bytes.length ≤ 1099511627776 ∧ (cntN d.q[j] kp).toNat ≤ d.q[j].count := by
  have hd := drop_get hj
  have hle : cntN d.q[j] kp ≤ kp ∧ cntN d.q[j] kp ≤ d.q[j].count := by unfold cntN; split <;> omega
  have h1 := h.b d.q[j].file
  rw [hd] at h1
  simp only [qb] at h1
  rcases h.ok with h2 | h2
  · omega
  · rw [hd] at h2
    exact ⟨h2.1, h2.2.1, by omega, by omega⟩
theorem SetJ.stop {d : DiskD} {keep : Int} {j : Nat} {kp : Int} {s : LS} (h : SetJ d keep j kp s) (hj : ¬ j < d.q.length) : True ∧ settleD d keep = { d with l := s.1, lf := s.2, q := [], waits := 0 } := by
  have h1 := h.e
  rw [List.drop_eq_nil_of_le (by omega), settleL] at h1
  exact ⟨trivial, by rw [settleD, h1]⟩
theorem SetJ.brk {d : DiskD} {keep : Int} {j : Nat} {kp : Int} {s : LS} (h : SetJ d keep j kp s) (hj : j < d.q.length) (h0 : cntN d.q[j] kp ≤ 0) : True ∧ settleD d keep = { d with l := s.1, lf := s.2, q := [], waits := 0 } := by
  have h1 := h.e
  rw [drop_get hj, settleL, if_pos h0] at h1
  exact ⟨trivial, by rw [settleD, h1]⟩
theorem four {i : Nat} (h : i < 4) : i = 0 ∨ i = 1 ∨ i = 2 ∨ i = 3 := by omega
section
variable (d : DiskD) (g g1 g2 g3 g4 g5 g6 g7 g8 g9 : Nat)
set_option maxHeartbeats 4000000 in
theorem settle_c (hq : d.q.length ≤ 1099511627776) (keep : Int) (hk : -9223372036854775808 ≤ keep ∧ keep < 9223372036854775808) (hok : okq d.q (d.l, d.lf)) (hb : ∀ i, (d.l i).length + qb d.q ≤ 1099511627776) : ACo Try.prog 71 [.bx 0 g 0, .sc (.int .i64 keep)] (diskT g g1 g2 g3 g4 g5 g6 g7 g8 g9 d)
    (fun y os' => y = .tu [] ∧ DiskAt g (settleD d keep) os') := by
  refine ACo.of' (st0 := [⟨g, .box 99 [.sc (.int .i64 d.room), .ow 1 g1, .ow 2 g2, .ow 3 g3, .ow 4 g4, .ow 5 g5, .ow 6 g6, .ow 7 g7, .ow 8 g8, .ow 9 g9, .sc (.int .i64 d.waits), .sc (.int .i64 d.done), .sc (.bool d.fused), .sc (.int .i64 d.fuse), .sc (.bool d.dark)]⟩, ⟨g1, owM (d.nf 0) 5 1 (byA (d.n 0))⟩, ⟨g2, owM (d.nf 1) 5 1 (byA (d.n 1))⟩, ⟨g3, owM (d.nf 2) 5 1 (byA (d.n 2))⟩, ⟨g4, owM (d.nf 3) 5 1 (byA (d.n 3))⟩, ⟨g5, owM (d.lf 0) 5 1 (byA (d.l 0))⟩, ⟨g6, owM (d.lf 1) 5 1 (byA (d.l 1))⟩, ⟨g7, owM (d.lf 2) 5 1 (byA (d.l 2))⟩, ⟨g8, owM (d.lf 3) 5 1 (byA (d.l 3))⟩, ⟨g9, owM true 102 4 (d.q.map DeedD.cs)⟩, TK.mk 0 .off, TK.mk 0 .off]) 66 2 Try.func71 rfl 10 ?_
  refine AW.seq ?_
  refine AW.seq ?_
  refine AW.region ?_
  refine AL.settlebx 0 9 rfl rfl rfl (by first | rfl | exact cont_owM _ _ _ _) ?_
  refine AL.no ?_
  refine AL.rm ?_
  refine AL.r (rd_nilc_bx rfl rfl rfl) ?_
  refine AL.r (rd_faddr_bx rfl fo_99_3 rfl rfl ⟨_, _, rfl⟩) ?_
  refine AL.r (rd_load_bx rfl ag_97 rfl rfl rfl) ?_
  refine AL.r (rd_len_sl rfl el_97 rfl) ?_
  refine AL.rm ?_
  refine AL.nil ?_
  change AW _ _ _ _ _
  refine AW.block ?_
  refine AW.loopM (ι := Nat × Int × LS × Nat × Nat × Nat × Nat) [5, 6, 13, 14, 15, 16, 17, 18, 19, 20, 21, 22, 23, 24, 25, 26, 27, 28, 29, 30, 31, 32, 33, 34, 35, 36, 37, 38, 39, 40, 41, 42, 43, 44, 45, 46, 47, 48, 49, 50, 51, 52, 53, 54, 55, 56, 57, 58, 59, 60, 61] (fun ⟨j, kp, s, a5, a6, a7, a8⟩ => [(12, .sc (.int .i64 (j : Int))), (1, .sc (.int .i64 kp))]) [10, 11] (fun ⟨j, kp, s, a5, a6, a7, a8⟩ => [(0, ⟨g, .box 99 [.sc (.int .i64 d.room), .ow 1 g1, .ow 2 g2, .ow 3 g3, .ow 4 g4, .ow 5 a5, .ow 6 a6, .ow 7 a7, .ow 8 a8, .sl (d.q.map DeedD.cs), .sc (.int .i64 d.waits), .sc (.int .i64 d.done), .sc (.bool d.fused), .sc (.int .i64 d.fuse), .sc (.bool d.dark)]⟩), (5, ⟨a5, owM (s.2 0) 5 1 (byA (s.1 0))⟩), (6, ⟨a6, owM (s.2 1) 5 1 (byA (s.1 1))⟩), (7, ⟨a7, owM (s.2 2) 5 1 (byA (s.1 2))⟩), (8, ⟨a8, owM (s.2 3) 5 1 (byA (s.1 3))⟩)]) (fun ⟨j, kp, s, a5, a6, a7, a8⟩ => SetJ d keep j kp s) (fun ⟨j, kp, s, a5, a6, a7, a8⟩ => d.q.length - j) (0, keep, (d.l, d.lf), g5, g6, g7, g8) (⟨Nat.zero_le _, rfl, .inr hok, hk, hb⟩) (by simp only [anys, upds, offs, List.set_cons_zero, List.set_cons_succ]; repeat (first | exact Wk.nil | refine Wk.same ?_ | refine Wk.any ?_)) (by simp only [anys, upds, offs, List.set_cons_zero, List.set_cons_succ]; repeat (first | exact Sk.nil _ | refine Sk.same _ ?_ | refine Sk.scr _ (by decide) ?_)) ?_
  rintro ⟨j, kp, s, a5, a6, a7, a8⟩ gs hJ
  refine AW.norm (by simp only [anys, upds, offs, List.set_cons_zero, List.set_cons_succ]; rfl) (by (try simp only [anys, upds, offs, List.set_cons_zero, List.set_cons_succ]); (try rfl)) ?_
  have hJj := hJ.jl
  have hJk := hJ.k
  refine AW.seq ?_
  refine AW.region ?_
  refine AL.r (rd_bin rfl rfl rfl (fun _ => rfl)) ?_
  refine AL.nil ?_
  change AW _ _ _ _ _
  refine AW.seq ?_
  refine AW.cd rfl (fun h13 => ?_) (fun h13 => ?_)
  ·skip
   refine AW.skip ?_
   change AW _ _ _ _ _
   refine AW.seq ?_
   refine AW.block ?_
   refine AW.seq ?_
   refine AW.region ?_
   refine AL.r (rd_iaddr_sl rfl el_97 rfl rfl rfl (get_mapA (by omega)) rfl) ?_
   refine AL.r (rd_loadN_ep rfl ag_102 rfl (Nat.le_of_ble_eq_true rfl) rfl) ?_
   dsimp only [DeedD.cs]
   refine AL.op rfl (AOpB.op (op_alloc 10 rfl ze_102 rfl ?_))
   refine AL.no ?_
   refine AL.op rfl (op_store_ rfl rfl rfl rfl rfl sz_102 ?_)
   refine AL.no ?_
   refine AL.nil ?_
   change AW _ _ _ _ _
   refine AW.seq ?_
   refine AW.region ?_
   refine AL.r (rd_loadN_bx rfl ag_102 rfl rfl (Nat.le_of_ble_eq_true rfl) rfl) ?_
   refine AL.op rfl (AOpB.op (op_call (count_c d.q[j]) rfl (by kernel_rfl) rfl (none) ?_))
   rintro r rfl
   refine AL.no ?_
   refine AL.rm ?_
   refine AL.r (rd_min rfl rfl rfl (show _ = cntN d.q[j] kp from rfl)) ?_
   refine AL.ra ?_
   refine AL.nil ?_
   change AW _ _ _ _ _
   refine AW.seq ?_
   refine AW.seq ?_
   refine AW.region ?_
   refine AL.rm ?_
   refine AL.r (rd_bin rfl rfl rfl (fun _ => rfl)) ?_
   refine AL.nil ?_
   change AW _ _ _ _ _
   refine AW.cd rfl (fun h21 => ?_) (fun h21 => ?_)
   ·skip
    refine AW.exit ?_
    change AW _ _ _ _ _
    refine AW.seq ?_
    refine AW.region ?_
    refine AL.rm ?_
    refine AL.r (rd_nilc_bx rfl rfl rfl) ?_
    refine AL.r (rd_faddr_bx rfl fo_99_3 rfl rfl ⟨_, _, rfl⟩) ?_
    refine AL.op rfl (op_store_ rfl rfl rfl rfl rfl sz_97 ?_)
    refine AL.no ?_
    refine AL.nil ?_
    change AW _ _ _ _ _
    refine AW.region ?_
    refine AL.nilbx 0 9 9 102 4 rfl rfl rfl (by decide) ?_
    refine AL.no ?_
    refine AL.rm ?_
    refine AL.r (rd_nilc_bx rfl rfl rfl) ?_
    refine AL.r (rd_faddr_bx rfl fo_99_4 rfl rfl ⟨_, _, rfl⟩) ?_
    refine AL.op rfl (op_store_ rfl rfl rfl rfl rfl sz_3 ?_)
    refine AL.no ?_
    refine AL.nil ?_
    repeat with_reducible first | refine thenA_ret ?_ | refine inBlockA_ret ?_
    with_reducible first | refine retO_ret ?_ | refine retO_normal ?_
    refine reso0S rfl  ?_
    first | (have e := hJ.stop (by omega); exact ⟨rfl, by rw [e.2]; exact ⟨_, _, _, _, _, _, _, _, _, rfl⟩⟩) | (have e := hJ.brk (by omega) h21; exact ⟨rfl, by rw [e.2]; exact ⟨_, _, _, _, _, _, _, _, _, rfl⟩⟩)
   ·skip
    refine AW.skip ?_
    change AW _ _ _ _ _
    refine AW.seq ?_
    refine AW.region ?_
    have hjl : j < d.q.length := (by omega)
    have h0 : 0 < cntN d.q[j] kp := (by omega)
    obtain ⟨hf4, hsz, hbl, hcn⟩ := hJ.ok' hjl h0
    have hF := four hf4
    have hle : cntN d.q[j] kp ≤ kp := (by unfold cntN; split <;> omega)
    refine AL.rm ?_
    refine AL.rm ?_
    refine AL.r (rd_arith_sub rfl rfl rfl (by first | exact IntWalk.i64_in _ (by omega) | rfl)) ?_
    refine AL.ra ?_
    refine AL.nil ?_
    change AW _ _ _ _ _
    refine AW.seq ?_
    refine AW.region ?_
    refine AL.r (rd_faddr_bx rfl fo_102_1 rfl rfl ⟨_, _, rfl⟩) ?_
    refine AL.r (rd_load_bx rfl ag_4 rfl rfl rfl) ?_
    refine AL.nil ?_
    change AW _ _ _ _ _
    refine AW.cd rfl (fun h26 => ?_) (fun h26 => ?_)
    ·skip
     rcases hF with hF | hF | hF | hF <;> rw [hF]
     ·skip
      apply AW.drawS (by kernel_rfl)
      ·skip
       refine ADA.r 0 rfl (ARdP.a (rdP_move rfl rfl)) rfl ?_
       refine ADA.r 1 rfl (ARdP.a (rdP_faddr_bx rfl fo_102_0 rfl rfl ⟨_, _, rfl⟩)) rfl ?_
       refine ADA.r 3 rfl (ARdP.a (rdP_move rfl rfl)) rfl ?_
       refine ADA.r 4 rfl (ARdP.a (rdP_faddr_bx rfl fo_102_0 rfl rfl ⟨_, _, rfl⟩)) rfl ?_
       refine ADA.r 6 rfl (ARdP.a (rdP_nilc_bx rfl rfl rfl)) rfl ?_
       refine ADA.r 7 rfl (ARdP.a (rdP_faddr_bx rfl fo_99_2 rfl rfl ⟨_, _, rfl⟩)) rfl ?_
       refine ADA.r 10 rfl (ARdP.a (rdP_faddr_bx rfl fo_102_2 rfl rfl ⟨_, _, rfl⟩)) rfl ?_
       refine ADA.r 13 rfl (ARdP.a (rdP_nilc_bx rfl rfl rfl)) rfl ?_
       refine ADA.r 14 rfl (ARdP.a (rdP_faddr_bx rfl fo_99_2 rfl rfl ⟨_, _, rfl⟩)) rfl ?_
       refine ADA.b ?_
       refine ADB.all (is := [2, 5, 11]) (by kernel_rfl) (by simp) ?_
       intro i hi
       simp only [List.mem_cons, List.not_mem_nil, or_false] at hi
       rcases hi with rfl | rfl | rfl
       ·skip
        refine ⟨_, rfl, rfl, AOpB.op (ARd.opB (rd_load_bx rfl ag_3 rfl rfl rfl) ?_)⟩
        refine ADB.n ?_
        refine ADB.all (is := [5, 11]) (by kernel_rfl) (by simp) ?_
        intro i hi
        simp only [List.mem_cons, List.not_mem_nil, or_false] at hi
        rcases hi with rfl | rfl
        ·skip
         refine ⟨_, rfl, rfl, AOpB.op (ARd.opB (rd_load_bx rfl ag_3 rfl rfl rfl) ?_)⟩
         refine ADB.n ?_
         refine ADB.r 8 rfl (rdP_iaddr_bx_ 0 rfl ar_37 rfl rfl rfl) rfl ?_
         refine ADB.all (is := [9, 11]) (by kernel_rfl) (by simp) ?_
         intro i hi
         simp only [List.mem_cons, List.not_mem_nil, or_false] at hi
         rcases hi with rfl | rfl
         ·skip
          refine ⟨_, rfl, rfl, AOpB.op (ARd.opB (rd_load_bx rfl ag_29 rfl rfl rfl) ?_)⟩
          refine ADB.n ?_
          refine ADB.mv 11 rfl (AOpB.op (ARd.opB (rd_load_bx rfl ag_3 rfl rfl rfl) ?_))
          refine ADB.n ?_
          refine ADB.mv 12 rfl (AOpB.op (op_sliceM (n := d.q[j].size) rfl el_29 rfl rfl rfl rfl (by simp only [byA_len]; have := hsz h26; rw [hF] at this; exact this) ?_))
          refine ADB.n ?_
          refine ADB.r 15 rfl (rdP_iaddr_bx_ 0 rfl ar_37 rfl rfl rfl) rfl ?_
          refine ADB.mv 16 rfl (op_storo rfl rfl rfl rfl rfl sz_29 ?_)
          refine ADB.n ?_
          refine ADB.done (by kernel_rfl) ?_
          exact ⟨rfl, rfl⟩
         ·skip
          refine ⟨_, rfl, rfl, AOpB.op (ARd.opB (rd_load_bx rfl ag_3 rfl rfl rfl) ?_)⟩
          refine ADB.n ?_
          refine ADB.mv 9 rfl (AOpB.op (ARd.opB (rd_load_bx rfl ag_29 rfl rfl rfl) ?_))
          refine ADB.n ?_
          refine ADB.mv 12 rfl (AOpB.op (op_sliceM (n := d.q[j].size) rfl el_29 rfl rfl rfl rfl (by simp only [byA_len]; have := hsz h26; rw [hF] at this; exact this) ?_))
          refine ADB.n ?_
          refine ADB.r 15 rfl (rdP_iaddr_bx_ 0 rfl ar_37 rfl rfl rfl) rfl ?_
          refine ADB.mv 16 rfl (op_storo rfl rfl rfl rfl rfl sz_29 ?_)
          refine ADB.n ?_
          refine ADB.done (by kernel_rfl) ?_
          exact ⟨rfl, rfl⟩
        ·skip
         refine ⟨_, rfl, rfl, AOpB.op (ARd.opB (rd_load_bx rfl ag_3 rfl rfl rfl) ?_)⟩
         refine ADB.n ?_
         refine ADB.mv 5 rfl (AOpB.op (ARd.opB (rd_load_bx rfl ag_3 rfl rfl rfl) ?_))
         refine ADB.n ?_
         refine ADB.r 8 rfl (rdP_iaddr_bx_ 0 rfl ar_37 rfl rfl rfl) rfl ?_
         refine ADB.mv 9 rfl (AOpB.op (ARd.opB (rd_load_bx rfl ag_29 rfl rfl rfl) ?_))
         refine ADB.n ?_
         refine ADB.mv 12 rfl (AOpB.op (op_sliceM (n := d.q[j].size) rfl el_29 rfl rfl rfl rfl (by simp only [byA_len]; have := hsz h26; rw [hF] at this; exact this) ?_))
         refine ADB.n ?_
         refine ADB.r 15 rfl (rdP_iaddr_bx_ 0 rfl ar_37 rfl rfl rfl) rfl ?_
         refine ADB.mv 16 rfl (op_storo rfl rfl rfl rfl rfl sz_29 ?_)
         refine ADB.n ?_
         refine ADB.done (by kernel_rfl) ?_
         exact ⟨rfl, rfl⟩
       ·skip
        refine ⟨_, rfl, rfl, AOpB.op (ARd.opB (rd_load_bx rfl ag_3 rfl rfl rfl) ?_)⟩
        refine ADB.n ?_
        refine ADB.r 8 rfl (rdP_iaddr_bx_ 0 rfl ar_37 rfl rfl rfl) rfl ?_
        refine ADB.all (is := [2, 9, 11]) (by kernel_rfl) (by simp) ?_
        intro i hi
        simp only [List.mem_cons, List.not_mem_nil, or_false] at hi
        rcases hi with rfl | rfl | rfl
        ·skip
         refine ⟨_, rfl, rfl, AOpB.op (ARd.opB (rd_load_bx rfl ag_3 rfl rfl rfl) ?_)⟩
         refine ADB.n ?_
         refine ADB.all (is := [9, 11]) (by kernel_rfl) (by simp) ?_
         intro i hi
         simp only [List.mem_cons, List.not_mem_nil, or_false] at hi
         rcases hi with rfl | rfl
         ·skip
          refine ⟨_, rfl, rfl, AOpB.op (ARd.opB (rd_load_bx rfl ag_29 rfl rfl rfl) ?_)⟩
          refine ADB.n ?_
          refine ADB.mv 11 rfl (AOpB.op (ARd.opB (rd_load_bx rfl ag_3 rfl rfl rfl) ?_))
          refine ADB.n ?_
          refine ADB.mv 12 rfl (AOpB.op (op_sliceM (n := d.q[j].size) rfl el_29 rfl rfl rfl rfl (by simp only [byA_len]; have := hsz h26; rw [hF] at this; exact this) ?_))
          refine ADB.n ?_
          refine ADB.r 15 rfl (rdP_iaddr_bx_ 0 rfl ar_37 rfl rfl rfl) rfl ?_
          refine ADB.mv 16 rfl (op_storo rfl rfl rfl rfl rfl sz_29 ?_)
          refine ADB.n ?_
          refine ADB.done (by kernel_rfl) ?_
          exact ⟨rfl, rfl⟩
         ·skip
          refine ⟨_, rfl, rfl, AOpB.op (ARd.opB (rd_load_bx rfl ag_3 rfl rfl rfl) ?_)⟩
          refine ADB.n ?_
          refine ADB.mv 9 rfl (AOpB.op (ARd.opB (rd_load_bx rfl ag_29 rfl rfl rfl) ?_))
          refine ADB.n ?_
          refine ADB.mv 12 rfl (AOpB.op (op_sliceM (n := d.q[j].size) rfl el_29 rfl rfl rfl rfl (by simp only [byA_len]; have := hsz h26; rw [hF] at this; exact this) ?_))
          refine ADB.n ?_
          refine ADB.r 15 rfl (rdP_iaddr_bx_ 0 rfl ar_37 rfl rfl rfl) rfl ?_
          refine ADB.mv 16 rfl (op_storo rfl rfl rfl rfl rfl sz_29 ?_)
          refine ADB.n ?_
          refine ADB.done (by kernel_rfl) ?_
          exact ⟨rfl, rfl⟩
        ·skip
         refine ⟨_, rfl, rfl, AOpB.op (ARd.opB (rd_load_bx rfl ag_29 rfl rfl rfl) ?_)⟩
         refine ADB.n ?_
         refine ADB.all (is := [2, 11]) (by kernel_rfl) (by simp) ?_
         intro i hi
         simp only [List.mem_cons, List.not_mem_nil, or_false] at hi
         rcases hi with rfl | rfl
         ·skip
          refine ⟨_, rfl, rfl, AOpB.op (ARd.opB (rd_load_bx rfl ag_3 rfl rfl rfl) ?_)⟩
          refine ADB.n ?_
          refine ADB.mv 11 rfl (AOpB.op (ARd.opB (rd_load_bx rfl ag_3 rfl rfl rfl) ?_))
          refine ADB.n ?_
          refine ADB.mv 12 rfl (AOpB.op (op_sliceM (n := d.q[j].size) rfl el_29 rfl rfl rfl rfl (by simp only [byA_len]; have := hsz h26; rw [hF] at this; exact this) ?_))
          refine ADB.n ?_
          refine ADB.r 15 rfl (rdP_iaddr_bx_ 0 rfl ar_37 rfl rfl rfl) rfl ?_
          refine ADB.mv 16 rfl (op_storo rfl rfl rfl rfl rfl sz_29 ?_)
          refine ADB.n ?_
          refine ADB.done (by kernel_rfl) ?_
          exact ⟨rfl, rfl⟩
         ·skip
          refine ⟨_, rfl, rfl, AOpB.op (ARd.opB (rd_load_bx rfl ag_3 rfl rfl rfl) ?_)⟩
          refine ADB.n ?_
          refine ADB.all (is := [2, 12]) (by kernel_rfl) (by simp) ?_
          intro i hi
          simp only [List.mem_cons, List.not_mem_nil, or_false] at hi
          rcases hi with rfl | rfl
          ·skip
           refine ⟨_, rfl, rfl, AOpB.op (ARd.opB (rd_load_bx rfl ag_3 rfl rfl rfl) ?_)⟩
           refine ADB.n ?_
           refine ADB.mv 12 rfl (AOpB.op (op_sliceM (n := d.q[j].size) rfl el_29 rfl rfl rfl rfl (by simp only [byA_len]; have := hsz h26; rw [hF] at this; exact this) ?_))
           refine ADB.n ?_
           refine ADB.r 15 rfl (rdP_iaddr_bx_ 0 rfl ar_37 rfl rfl rfl) rfl ?_
           refine ADB.mv 16 rfl (op_storo rfl rfl rfl rfl rfl sz_29 ?_)
           refine ADB.n ?_
           refine ADB.done (by kernel_rfl) ?_
           exact ⟨rfl, rfl⟩
          ·skip
           refine ⟨_, rfl, rfl, AOpB.op (op_sliceM (n := d.q[j].size) rfl el_29 rfl rfl rfl rfl (by simp only [byA_len]; have := hsz h26; rw [hF] at this; exact this) ?_)⟩
           refine ADB.n ?_
           refine ADB.mv 2 rfl (AOpB.op (ARd.opB (rd_load_bx rfl ag_3 rfl rfl rfl) ?_))
           refine ADB.n ?_
           refine ADB.r 15 rfl (rdP_iaddr_bx_ 0 rfl ar_37 rfl rfl rfl) rfl ?_
           refine ADB.mv 16 rfl (op_storo rfl rfl rfl rfl rfl sz_29 ?_)
           refine ADB.n ?_
           refine ADB.done (by kernel_rfl) ?_
           exact ⟨rfl, rfl⟩
        ·skip
         refine ⟨_, rfl, rfl, AOpB.op (ARd.opB (rd_load_bx rfl ag_3 rfl rfl rfl) ?_)⟩
         refine ADB.n ?_
         refine ADB.all (is := [2, 9]) (by kernel_rfl) (by simp) ?_
         intro i hi
         simp only [List.mem_cons, List.not_mem_nil, or_false] at hi
         rcases hi with rfl | rfl
         ·skip
          refine ⟨_, rfl, rfl, AOpB.op (ARd.opB (rd_load_bx rfl ag_3 rfl rfl rfl) ?_)⟩
          refine ADB.n ?_
          refine ADB.mv 9 rfl (AOpB.op (ARd.opB (rd_load_bx rfl ag_29 rfl rfl rfl) ?_))
          refine ADB.n ?_
          refine ADB.mv 12 rfl (AOpB.op (op_sliceM (n := d.q[j].size) rfl el_29 rfl rfl rfl rfl (by simp only [byA_len]; have := hsz h26; rw [hF] at this; exact this) ?_))
          refine ADB.n ?_
          refine ADB.r 15 rfl (rdP_iaddr_bx_ 0 rfl ar_37 rfl rfl rfl) rfl ?_
          refine ADB.mv 16 rfl (op_storo rfl rfl rfl rfl rfl sz_29 ?_)
          refine ADB.n ?_
          refine ADB.done (by kernel_rfl) ?_
          exact ⟨rfl, rfl⟩
         ·skip
          refine ⟨_, rfl, rfl, AOpB.op (ARd.opB (rd_load_bx rfl ag_29 rfl rfl rfl) ?_)⟩
          refine ADB.n ?_
          refine ADB.all (is := [2, 12]) (by kernel_rfl) (by simp) ?_
          intro i hi
          simp only [List.mem_cons, List.not_mem_nil, or_false] at hi
          rcases hi with rfl | rfl
          ·skip
           refine ⟨_, rfl, rfl, AOpB.op (ARd.opB (rd_load_bx rfl ag_3 rfl rfl rfl) ?_)⟩
           refine ADB.n ?_
           refine ADB.mv 12 rfl (AOpB.op (op_sliceM (n := d.q[j].size) rfl el_29 rfl rfl rfl rfl (by simp only [byA_len]; have := hsz h26; rw [hF] at this; exact this) ?_))
           refine ADB.n ?_
           refine ADB.r 15 rfl (rdP_iaddr_bx_ 0 rfl ar_37 rfl rfl rfl) rfl ?_
           refine ADB.mv 16 rfl (op_storo rfl rfl rfl rfl rfl sz_29 ?_)
           refine ADB.n ?_
           refine ADB.done (by kernel_rfl) ?_
           exact ⟨rfl, rfl⟩
          ·skip
           refine ⟨_, rfl, rfl, AOpB.op (op_sliceM (n := d.q[j].size) rfl el_29 rfl rfl rfl rfl (by simp only [byA_len]; have := hsz h26; rw [hF] at this; exact this) ?_)⟩
           refine ADB.n ?_
           refine ADB.mv 2 rfl (AOpB.op (ARd.opB (rd_load_bx rfl ag_3 rfl rfl rfl) ?_))
           refine ADB.n ?_
           refine ADB.r 15 rfl (rdP_iaddr_bx_ 0 rfl ar_37 rfl rfl rfl) rfl ?_
           refine ADB.mv 16 rfl (op_storo rfl rfl rfl rfl rfl sz_29 ?_)
           refine ADB.n ?_
           refine ADB.done (by kernel_rfl) ?_
           exact ⟨rfl, rfl⟩
       ·skip
        refine ⟨_, rfl, rfl, AOpB.op (ARd.opB (rd_load_bx rfl ag_3 rfl rfl rfl) ?_)⟩
        refine ADB.n ?_
        refine ADB.all (is := [2, 5]) (by kernel_rfl) (by simp) ?_
        intro i hi
        simp only [List.mem_cons, List.not_mem_nil, or_false] at hi
        rcases hi with rfl | rfl
        ·skip
         refine ⟨_, rfl, rfl, AOpB.op (ARd.opB (rd_load_bx rfl ag_3 rfl rfl rfl) ?_)⟩
         refine ADB.n ?_
         refine ADB.mv 5 rfl (AOpB.op (ARd.opB (rd_load_bx rfl ag_3 rfl rfl rfl) ?_))
         refine ADB.n ?_
         refine ADB.r 8 rfl (rdP_iaddr_bx_ 0 rfl ar_37 rfl rfl rfl) rfl ?_
         refine ADB.mv 9 rfl (AOpB.op (ARd.opB (rd_load_bx rfl ag_29 rfl rfl rfl) ?_))
         refine ADB.n ?_
         refine ADB.mv 12 rfl (AOpB.op (op_sliceM (n := d.q[j].size) rfl el_29 rfl rfl rfl rfl (by simp only [byA_len]; have := hsz h26; rw [hF] at this; exact this) ?_))
         refine ADB.n ?_
         refine ADB.r 15 rfl (rdP_iaddr_bx_ 0 rfl ar_37 rfl rfl rfl) rfl ?_
         refine ADB.mv 16 rfl (op_storo rfl rfl rfl rfl rfl sz_29 ?_)
         refine ADB.n ?_
         refine ADB.done (by kernel_rfl) ?_
         exact ⟨rfl, rfl⟩
        ·skip
         refine ⟨_, rfl, rfl, AOpB.op (ARd.opB (rd_load_bx rfl ag_3 rfl rfl rfl) ?_)⟩
         refine ADB.n ?_
         refine ADB.r 8 rfl (rdP_iaddr_bx_ 0 rfl ar_37 rfl rfl rfl) rfl ?_
         refine ADB.all (is := [2, 9]) (by kernel_rfl) (by simp) ?_
         intro i hi
         simp only [List.mem_cons, List.not_mem_nil, or_false] at hi
         rcases hi with rfl | rfl
         ·skip
          refine ⟨_, rfl, rfl, AOpB.op (ARd.opB (rd_load_bx rfl ag_3 rfl rfl rfl) ?_)⟩
          refine ADB.n ?_
          refine ADB.mv 9 rfl (AOpB.op (ARd.opB (rd_load_bx rfl ag_29 rfl rfl rfl) ?_))
          refine ADB.n ?_
          refine ADB.mv 12 rfl (AOpB.op (op_sliceM (n := d.q[j].size) rfl el_29 rfl rfl rfl rfl (by simp only [byA_len]; have := hsz h26; rw [hF] at this; exact this) ?_))
          refine ADB.n ?_
          refine ADB.r 15 rfl (rdP_iaddr_bx_ 0 rfl ar_37 rfl rfl rfl) rfl ?_
          refine ADB.mv 16 rfl (op_storo rfl rfl rfl rfl rfl sz_29 ?_)
          refine ADB.n ?_
          refine ADB.done (by kernel_rfl) ?_
          exact ⟨rfl, rfl⟩
         ·skip
          refine ⟨_, rfl, rfl, AOpB.op (ARd.opB (rd_load_bx rfl ag_29 rfl rfl rfl) ?_)⟩
          refine ADB.n ?_
          refine ADB.all (is := [2, 12]) (by kernel_rfl) (by simp) ?_
          intro i hi
          simp only [List.mem_cons, List.not_mem_nil, or_false] at hi
          rcases hi with rfl | rfl
          ·skip
           refine ⟨_, rfl, rfl, AOpB.op (ARd.opB (rd_load_bx rfl ag_3 rfl rfl rfl) ?_)⟩
           refine ADB.n ?_
           refine ADB.mv 12 rfl (AOpB.op (op_sliceM (n := d.q[j].size) rfl el_29 rfl rfl rfl rfl (by simp only [byA_len]; have := hsz h26; rw [hF] at this; exact this) ?_))
           refine ADB.n ?_
           refine ADB.r 15 rfl (rdP_iaddr_bx_ 0 rfl ar_37 rfl rfl rfl) rfl ?_
           refine ADB.mv 16 rfl (op_storo rfl rfl rfl rfl rfl sz_29 ?_)
           refine ADB.n ?_
           refine ADB.done (by kernel_rfl) ?_
           exact ⟨rfl, rfl⟩
          ·skip
           refine ⟨_, rfl, rfl, AOpB.op (op_sliceM (n := d.q[j].size) rfl el_29 rfl rfl rfl rfl (by simp only [byA_len]; have := hsz h26; rw [hF] at this; exact this) ?_)⟩
           refine ADB.n ?_
           refine ADB.mv 2 rfl (AOpB.op (ARd.opB (rd_load_bx rfl ag_3 rfl rfl rfl) ?_))
           refine ADB.n ?_
           refine ADB.r 15 rfl (rdP_iaddr_bx_ 0 rfl ar_37 rfl rfl rfl) rfl ?_
           refine ADB.mv 16 rfl (op_storo rfl rfl rfl rfl rfl sz_29 ?_)
           refine ADB.n ?_
           refine ADB.done (by kernel_rfl) ?_
           exact ⟨rfl, rfl⟩
      skip
      change AW _ _ _ _ _
      refine AW.region ?_
      refine AL.r (rd_arith_add rfl rfl rfl (by first | exact IntWalk.i64_in _ (by omega) | rfl)) ?_
      refine AL.rm ?_
      refine AL.nil ?_
      refine ⟨⟨j + 1, kp - cntN d.q[j] kp, stepL d.q[j] (cntN d.q[j] kp).toNat s, a5 + 1, a6, a7, a8⟩, ?_, by first | omega | (simp only []; omega), ?_, ?_⟩
      ·exact hJ.next hjl h0
      ·simp only [anys, upds, offs, List.set_cons_zero, List.set_cons_succ]; repeat (first | exact Wk.nil | refine Wk.same ?_ | refine Wk.any ?_)
      ·simp only [anys, upds, offs, List.set_cons_zero, List.set_cons_succ]; repeat (first | exact Sk.nil _ | refine Sk.same _ ?_ | refine Sk.scr _ (by decide) ?_ | refine Sk.eq _ (by simp [stepL, upd, hF, h26]) ?_)
     ·skip
      apply AW.drawS (by kernel_rfl)
      ·skip
       refine ADA.r 0 rfl (ARdP.a (rdP_move rfl rfl)) rfl ?_
       refine ADA.r 1 rfl (ARdP.a (rdP_faddr_bx rfl fo_102_0 rfl rfl ⟨_, _, rfl⟩)) rfl ?_
       refine ADA.r 3 rfl (ARdP.a (rdP_move rfl rfl)) rfl ?_
       refine ADA.r 4 rfl (ARdP.a (rdP_faddr_bx rfl fo_102_0 rfl rfl ⟨_, _, rfl⟩)) rfl ?_
       refine ADA.r 6 rfl (ARdP.a (rdP_nilc_bx rfl rfl rfl)) rfl ?_
       refine ADA.r 7 rfl (ARdP.a (rdP_faddr_bx rfl fo_99_2 rfl rfl ⟨_, _, rfl⟩)) rfl ?_
       refine ADA.r 10 rfl (ARdP.a (rdP_faddr_bx rfl fo_102_2 rfl rfl ⟨_, _, rfl⟩)) rfl ?_
       refine ADA.r 13 rfl (ARdP.a (rdP_nilc_bx rfl rfl rfl)) rfl ?_
       refine ADA.r 14 rfl (ARdP.a (rdP_faddr_bx rfl fo_99_2 rfl rfl ⟨_, _, rfl⟩)) rfl ?_
       refine ADA.b ?_
       refine ADB.all (is := [2, 5, 11]) (by kernel_rfl) (by simp) ?_
       intro i hi
       simp only [List.mem_cons, List.not_mem_nil, or_false] at hi
       rcases hi with rfl | rfl | rfl
       ·skip
        refine ⟨_, rfl, rfl, AOpB.op (ARd.opB (rd_load_bx rfl ag_3 rfl rfl rfl) ?_)⟩
        refine ADB.n ?_
        refine ADB.all (is := [5, 11]) (by kernel_rfl) (by simp) ?_
        intro i hi
        simp only [List.mem_cons, List.not_mem_nil, or_false] at hi
        rcases hi with rfl | rfl
        ·skip
         refine ⟨_, rfl, rfl, AOpB.op (ARd.opB (rd_load_bx rfl ag_3 rfl rfl rfl) ?_)⟩
         refine ADB.n ?_
         refine ADB.r 8 rfl (rdP_iaddr_bx_ 1 rfl ar_37 rfl rfl rfl) rfl ?_
         refine ADB.all (is := [9, 11]) (by kernel_rfl) (by simp) ?_
         intro i hi
         simp only [List.mem_cons, List.not_mem_nil, or_false] at hi
         rcases hi with rfl | rfl
         ·skip
          refine ⟨_, rfl, rfl, AOpB.op (ARd.opB (rd_load_bx rfl ag_29 rfl rfl rfl) ?_)⟩
          refine ADB.n ?_
          refine ADB.mv 11 rfl (AOpB.op (ARd.opB (rd_load_bx rfl ag_3 rfl rfl rfl) ?_))
          refine ADB.n ?_
          refine ADB.mv 12 rfl (AOpB.op (op_sliceM (n := d.q[j].size) rfl el_29 rfl rfl rfl rfl (by simp only [byA_len]; have := hsz h26; rw [hF] at this; exact this) ?_))
          refine ADB.n ?_
          refine ADB.r 15 rfl (rdP_iaddr_bx_ 1 rfl ar_37 rfl rfl rfl) rfl ?_
          refine ADB.mv 16 rfl (op_storo rfl rfl rfl rfl rfl sz_29 ?_)
          refine ADB.n ?_
          refine ADB.done (by kernel_rfl) ?_
          exact ⟨rfl, rfl⟩
         ·skip
          refine ⟨_, rfl, rfl, AOpB.op (ARd.opB (rd_load_bx rfl ag_3 rfl rfl rfl) ?_)⟩
          refine ADB.n ?_
          refine ADB.mv 9 rfl (AOpB.op (ARd.opB (rd_load_bx rfl ag_29 rfl rfl rfl) ?_))
          refine ADB.n ?_
          refine ADB.mv 12 rfl (AOpB.op (op_sliceM (n := d.q[j].size) rfl el_29 rfl rfl rfl rfl (by simp only [byA_len]; have := hsz h26; rw [hF] at this; exact this) ?_))
          refine ADB.n ?_
          refine ADB.r 15 rfl (rdP_iaddr_bx_ 1 rfl ar_37 rfl rfl rfl) rfl ?_
          refine ADB.mv 16 rfl (op_storo rfl rfl rfl rfl rfl sz_29 ?_)
          refine ADB.n ?_
          refine ADB.done (by kernel_rfl) ?_
          exact ⟨rfl, rfl⟩
        ·skip
         refine ⟨_, rfl, rfl, AOpB.op (ARd.opB (rd_load_bx rfl ag_3 rfl rfl rfl) ?_)⟩
         refine ADB.n ?_
         refine ADB.mv 5 rfl (AOpB.op (ARd.opB (rd_load_bx rfl ag_3 rfl rfl rfl) ?_))
         refine ADB.n ?_
         refine ADB.r 8 rfl (rdP_iaddr_bx_ 1 rfl ar_37 rfl rfl rfl) rfl ?_
         refine ADB.mv 9 rfl (AOpB.op (ARd.opB (rd_load_bx rfl ag_29 rfl rfl rfl) ?_))
         refine ADB.n ?_
         refine ADB.mv 12 rfl (AOpB.op (op_sliceM (n := d.q[j].size) rfl el_29 rfl rfl rfl rfl (by simp only [byA_len]; have := hsz h26; rw [hF] at this; exact this) ?_))
         refine ADB.n ?_
         refine ADB.r 15 rfl (rdP_iaddr_bx_ 1 rfl ar_37 rfl rfl rfl) rfl ?_
         refine ADB.mv 16 rfl (op_storo rfl rfl rfl rfl rfl sz_29 ?_)
         refine ADB.n ?_
         refine ADB.done (by kernel_rfl) ?_
         exact ⟨rfl, rfl⟩
       ·skip
        refine ⟨_, rfl, rfl, AOpB.op (ARd.opB (rd_load_bx rfl ag_3 rfl rfl rfl) ?_)⟩
        refine ADB.n ?_
        refine ADB.r 8 rfl (rdP_iaddr_bx_ 1 rfl ar_37 rfl rfl rfl) rfl ?_
        refine ADB.all (is := [2, 9, 11]) (by kernel_rfl) (by simp) ?_
        intro i hi
        simp only [List.mem_cons, List.not_mem_nil, or_false] at hi
        rcases hi with rfl | rfl | rfl
        ·skip
         refine ⟨_, rfl, rfl, AOpB.op (ARd.opB (rd_load_bx rfl ag_3 rfl rfl rfl) ?_)⟩
         refine ADB.n ?_
         refine ADB.all (is := [9, 11]) (by kernel_rfl) (by simp) ?_
         intro i hi
         simp only [List.mem_cons, List.not_mem_nil, or_false] at hi
         rcases hi with rfl | rfl
         ·skip
          refine ⟨_, rfl, rfl, AOpB.op (ARd.opB (rd_load_bx rfl ag_29 rfl rfl rfl) ?_)⟩
          refine ADB.n ?_
          refine ADB.mv 11 rfl (AOpB.op (ARd.opB (rd_load_bx rfl ag_3 rfl rfl rfl) ?_))
          refine ADB.n ?_
          refine ADB.mv 12 rfl (AOpB.op (op_sliceM (n := d.q[j].size) rfl el_29 rfl rfl rfl rfl (by simp only [byA_len]; have := hsz h26; rw [hF] at this; exact this) ?_))
          refine ADB.n ?_
          refine ADB.r 15 rfl (rdP_iaddr_bx_ 1 rfl ar_37 rfl rfl rfl) rfl ?_
          refine ADB.mv 16 rfl (op_storo rfl rfl rfl rfl rfl sz_29 ?_)
          refine ADB.n ?_
          refine ADB.done (by kernel_rfl) ?_
          exact ⟨rfl, rfl⟩
         ·skip
          refine ⟨_, rfl, rfl, AOpB.op (ARd.opB (rd_load_bx rfl ag_3 rfl rfl rfl) ?_)⟩
          refine ADB.n ?_
          refine ADB.mv 9 rfl (AOpB.op (ARd.opB (rd_load_bx rfl ag_29 rfl rfl rfl) ?_))
          refine ADB.n ?_
          refine ADB.mv 12 rfl (AOpB.op (op_sliceM (n := d.q[j].size) rfl el_29 rfl rfl rfl rfl (by simp only [byA_len]; have := hsz h26; rw [hF] at this; exact this) ?_))
          refine ADB.n ?_
          refine ADB.r 15 rfl (rdP_iaddr_bx_ 1 rfl ar_37 rfl rfl rfl) rfl ?_
          refine ADB.mv 16 rfl (op_storo rfl rfl rfl rfl rfl sz_29 ?_)
          refine ADB.n ?_
          refine ADB.done (by kernel_rfl) ?_
          exact ⟨rfl, rfl⟩
        ·skip
         refine ⟨_, rfl, rfl, AOpB.op (ARd.opB (rd_load_bx rfl ag_29 rfl rfl rfl) ?_)⟩
         refine ADB.n ?_
         refine ADB.all (is := [2, 11]) (by kernel_rfl) (by simp) ?_
         intro i hi
         simp only [List.mem_cons, List.not_mem_nil, or_false] at hi
         rcases hi with rfl | rfl
         ·skip
          refine ⟨_, rfl, rfl, AOpB.op (ARd.opB (rd_load_bx rfl ag_3 rfl rfl rfl) ?_)⟩
          refine ADB.n ?_
          refine ADB.mv 11 rfl (AOpB.op (ARd.opB (rd_load_bx rfl ag_3 rfl rfl rfl) ?_))
          refine ADB.n ?_
          refine ADB.mv 12 rfl (AOpB.op (op_sliceM (n := d.q[j].size) rfl el_29 rfl rfl rfl rfl (by simp only [byA_len]; have := hsz h26; rw [hF] at this; exact this) ?_))
          refine ADB.n ?_
          refine ADB.r 15 rfl (rdP_iaddr_bx_ 1 rfl ar_37 rfl rfl rfl) rfl ?_
          refine ADB.mv 16 rfl (op_storo rfl rfl rfl rfl rfl sz_29 ?_)
          refine ADB.n ?_
          refine ADB.done (by kernel_rfl) ?_
          exact ⟨rfl, rfl⟩
         ·skip
          refine ⟨_, rfl, rfl, AOpB.op (ARd.opB (rd_load_bx rfl ag_3 rfl rfl rfl) ?_)⟩
          refine ADB.n ?_
          refine ADB.all (is := [2, 12]) (by kernel_rfl) (by simp) ?_
          intro i hi
          simp only [List.mem_cons, List.not_mem_nil, or_false] at hi
          rcases hi with rfl | rfl
          ·skip
           refine ⟨_, rfl, rfl, AOpB.op (ARd.opB (rd_load_bx rfl ag_3 rfl rfl rfl) ?_)⟩
           refine ADB.n ?_
           refine ADB.mv 12 rfl (AOpB.op (op_sliceM (n := d.q[j].size) rfl el_29 rfl rfl rfl rfl (by simp only [byA_len]; have := hsz h26; rw [hF] at this; exact this) ?_))
           refine ADB.n ?_
           refine ADB.r 15 rfl (rdP_iaddr_bx_ 1 rfl ar_37 rfl rfl rfl) rfl ?_
           refine ADB.mv 16 rfl (op_storo rfl rfl rfl rfl rfl sz_29 ?_)
           refine ADB.n ?_
           refine ADB.done (by kernel_rfl) ?_
           exact ⟨rfl, rfl⟩
          ·skip
           refine ⟨_, rfl, rfl, AOpB.op (op_sliceM (n := d.q[j].size) rfl el_29 rfl rfl rfl rfl (by simp only [byA_len]; have := hsz h26; rw [hF] at this; exact this) ?_)⟩
           refine ADB.n ?_
           refine ADB.mv 2 rfl (AOpB.op (ARd.opB (rd_load_bx rfl ag_3 rfl rfl rfl) ?_))
           refine ADB.n ?_
           refine ADB.r 15 rfl (rdP_iaddr_bx_ 1 rfl ar_37 rfl rfl rfl) rfl ?_
           refine ADB.mv 16 rfl (op_storo rfl rfl rfl rfl rfl sz_29 ?_)
           refine ADB.n ?_
           refine ADB.done (by kernel_rfl) ?_
           exact ⟨rfl, rfl⟩
        ·skip
         refine ⟨_, rfl, rfl, AOpB.op (ARd.opB (rd_load_bx rfl ag_3 rfl rfl rfl) ?_)⟩
         refine ADB.n ?_
         refine ADB.all (is := [2, 9]) (by kernel_rfl) (by simp) ?_
         intro i hi
         simp only [List.mem_cons, List.not_mem_nil, or_false] at hi
         rcases hi with rfl | rfl
         ·skip
          refine ⟨_, rfl, rfl, AOpB.op (ARd.opB (rd_load_bx rfl ag_3 rfl rfl rfl) ?_)⟩
          refine ADB.n ?_
          refine ADB.mv 9 rfl (AOpB.op (ARd.opB (rd_load_bx rfl ag_29 rfl rfl rfl) ?_))
          refine ADB.n ?_
          refine ADB.mv 12 rfl (AOpB.op (op_sliceM (n := d.q[j].size) rfl el_29 rfl rfl rfl rfl (by simp only [byA_len]; have := hsz h26; rw [hF] at this; exact this) ?_))
          refine ADB.n ?_
          refine ADB.r 15 rfl (rdP_iaddr_bx_ 1 rfl ar_37 rfl rfl rfl) rfl ?_
          refine ADB.mv 16 rfl (op_storo rfl rfl rfl rfl rfl sz_29 ?_)
          refine ADB.n ?_
          refine ADB.done (by kernel_rfl) ?_
          exact ⟨rfl, rfl⟩
         ·skip
          refine ⟨_, rfl, rfl, AOpB.op (ARd.opB (rd_load_bx rfl ag_29 rfl rfl rfl) ?_)⟩
          refine ADB.n ?_
          refine ADB.all (is := [2, 12]) (by kernel_rfl) (by simp) ?_
          intro i hi
          simp only [List.mem_cons, List.not_mem_nil, or_false] at hi
          rcases hi with rfl | rfl
          ·skip
           refine ⟨_, rfl, rfl, AOpB.op (ARd.opB (rd_load_bx rfl ag_3 rfl rfl rfl) ?_)⟩
           refine ADB.n ?_
           refine ADB.mv 12 rfl (AOpB.op (op_sliceM (n := d.q[j].size) rfl el_29 rfl rfl rfl rfl (by simp only [byA_len]; have := hsz h26; rw [hF] at this; exact this) ?_))
           refine ADB.n ?_
           refine ADB.r 15 rfl (rdP_iaddr_bx_ 1 rfl ar_37 rfl rfl rfl) rfl ?_
           refine ADB.mv 16 rfl (op_storo rfl rfl rfl rfl rfl sz_29 ?_)
           refine ADB.n ?_
           refine ADB.done (by kernel_rfl) ?_
           exact ⟨rfl, rfl⟩
          ·skip
           refine ⟨_, rfl, rfl, AOpB.op (op_sliceM (n := d.q[j].size) rfl el_29 rfl rfl rfl rfl (by simp only [byA_len]; have := hsz h26; rw [hF] at this; exact this) ?_)⟩
           refine ADB.n ?_
           refine ADB.mv 2 rfl (AOpB.op (ARd.opB (rd_load_bx rfl ag_3 rfl rfl rfl) ?_))
           refine ADB.n ?_
           refine ADB.r 15 rfl (rdP_iaddr_bx_ 1 rfl ar_37 rfl rfl rfl) rfl ?_
           refine ADB.mv 16 rfl (op_storo rfl rfl rfl rfl rfl sz_29 ?_)
           refine ADB.n ?_
           refine ADB.done (by kernel_rfl) ?_
           exact ⟨rfl, rfl⟩
       ·skip
        refine ⟨_, rfl, rfl, AOpB.op (ARd.opB (rd_load_bx rfl ag_3 rfl rfl rfl) ?_)⟩
        refine ADB.n ?_
        refine ADB.all (is := [2, 5]) (by kernel_rfl) (by simp) ?_
        intro i hi
        simp only [List.mem_cons, List.not_mem_nil, or_false] at hi
        rcases hi with rfl | rfl
        ·skip
         refine ⟨_, rfl, rfl, AOpB.op (ARd.opB (rd_load_bx rfl ag_3 rfl rfl rfl) ?_)⟩
         refine ADB.n ?_
         refine ADB.mv 5 rfl (AOpB.op (ARd.opB (rd_load_bx rfl ag_3 rfl rfl rfl) ?_))
         refine ADB.n ?_
         refine ADB.r 8 rfl (rdP_iaddr_bx_ 1 rfl ar_37 rfl rfl rfl) rfl ?_
         refine ADB.mv 9 rfl (AOpB.op (ARd.opB (rd_load_bx rfl ag_29 rfl rfl rfl) ?_))
         refine ADB.n ?_
         refine ADB.mv 12 rfl (AOpB.op (op_sliceM (n := d.q[j].size) rfl el_29 rfl rfl rfl rfl (by simp only [byA_len]; have := hsz h26; rw [hF] at this; exact this) ?_))
         refine ADB.n ?_
         refine ADB.r 15 rfl (rdP_iaddr_bx_ 1 rfl ar_37 rfl rfl rfl) rfl ?_
         refine ADB.mv 16 rfl (op_storo rfl rfl rfl rfl rfl sz_29 ?_)
         refine ADB.n ?_
         refine ADB.done (by kernel_rfl) ?_
         exact ⟨rfl, rfl⟩
        ·skip
         refine ⟨_, rfl, rfl, AOpB.op (ARd.opB (rd_load_bx rfl ag_3 rfl rfl rfl) ?_)⟩
         refine ADB.n ?_
         refine ADB.r 8 rfl (rdP_iaddr_bx_ 1 rfl ar_37 rfl rfl rfl) rfl ?_
         refine ADB.all (is := [2, 9]) (by kernel_rfl) (by simp) ?_
         intro i hi
         simp only [List.mem_cons, List.not_mem_nil, or_false] at hi
         rcases hi with rfl | rfl
         ·skip
          refine ⟨_, rfl, rfl, AOpB.op (ARd.opB (rd_load_bx rfl ag_3 rfl rfl rfl) ?_)⟩
          refine ADB.n ?_
          refine ADB.mv 9 rfl (AOpB.op (ARd.opB (rd_load_bx rfl ag_29 rfl rfl rfl) ?_))
          refine ADB.n ?_
          refine ADB.mv 12 rfl (AOpB.op (op_sliceM (n := d.q[j].size) rfl el_29 rfl rfl rfl rfl (by simp only [byA_len]; have := hsz h26; rw [hF] at this; exact this) ?_))
          refine ADB.n ?_
          refine ADB.r 15 rfl (rdP_iaddr_bx_ 1 rfl ar_37 rfl rfl rfl) rfl ?_
          refine ADB.mv 16 rfl (op_storo rfl rfl rfl rfl rfl sz_29 ?_)
          refine ADB.n ?_
          refine ADB.done (by kernel_rfl) ?_
          exact ⟨rfl, rfl⟩
         ·skip
          refine ⟨_, rfl, rfl, AOpB.op (ARd.opB (rd_load_bx rfl ag_29 rfl rfl rfl) ?_)⟩
          refine ADB.n ?_
          refine ADB.all (is := [2, 12]) (by kernel_rfl) (by simp) ?_
          intro i hi
          simp only [List.mem_cons, List.not_mem_nil, or_false] at hi
          rcases hi with rfl | rfl
          ·skip
           refine ⟨_, rfl, rfl, AOpB.op (ARd.opB (rd_load_bx rfl ag_3 rfl rfl rfl) ?_)⟩
           refine ADB.n ?_
           refine ADB.mv 12 rfl (AOpB.op (op_sliceM (n := d.q[j].size) rfl el_29 rfl rfl rfl rfl (by simp only [byA_len]; have := hsz h26; rw [hF] at this; exact this) ?_))
           refine ADB.n ?_
           refine ADB.r 15 rfl (rdP_iaddr_bx_ 1 rfl ar_37 rfl rfl rfl) rfl ?_
           refine ADB.mv 16 rfl (op_storo rfl rfl rfl rfl rfl sz_29 ?_)
           refine ADB.n ?_
           refine ADB.done (by kernel_rfl) ?_
           exact ⟨rfl, rfl⟩
          ·skip
           refine ⟨_, rfl, rfl, AOpB.op (op_sliceM (n := d.q[j].size) rfl el_29 rfl rfl rfl rfl (by simp only [byA_len]; have := hsz h26; rw [hF] at this; exact this) ?_)⟩
           refine ADB.n ?_
           refine ADB.mv 2 rfl (AOpB.op (ARd.opB (rd_load_bx rfl ag_3 rfl rfl rfl) ?_))
           refine ADB.n ?_
           refine ADB.r 15 rfl (rdP_iaddr_bx_ 1 rfl ar_37 rfl rfl rfl) rfl ?_
           refine ADB.mv 16 rfl (op_storo rfl rfl rfl rfl rfl sz_29 ?_)
           refine ADB.n ?_
           refine ADB.done (by kernel_rfl) ?_
           exact ⟨rfl, rfl⟩
      skip
      change AW _ _ _ _ _
      refine AW.region ?_
      refine AL.r (rd_arith_add rfl rfl rfl (by first | exact IntWalk.i64_in _ (by omega) | rfl)) ?_
      refine AL.rm ?_
      refine AL.nil ?_
      refine ⟨⟨j + 1, kp - cntN d.q[j] kp, stepL d.q[j] (cntN d.q[j] kp).toNat s, a5, a6 + 1, a7, a8⟩, ?_, by first | omega | (simp only []; omega), ?_, ?_⟩
      ·exact hJ.next hjl h0
      ·simp only [anys, upds, offs, List.set_cons_zero, List.set_cons_succ]; repeat (first | exact Wk.nil | refine Wk.same ?_ | refine Wk.any ?_)
      ·simp only [anys, upds, offs, List.set_cons_zero, List.set_cons_succ]; repeat (first | exact Sk.nil _ | refine Sk.same _ ?_ | refine Sk.scr _ (by decide) ?_ | refine Sk.eq _ (by simp [stepL, upd, hF, h26]) ?_)
     ·skip
      apply AW.drawS (by kernel_rfl)
      ·skip
       refine ADA.r 0 rfl (ARdP.a (rdP_move rfl rfl)) rfl ?_
       refine ADA.r 1 rfl (ARdP.a (rdP_faddr_bx rfl fo_102_0 rfl rfl ⟨_, _, rfl⟩)) rfl ?_
       refine ADA.r 3 rfl (ARdP.a (rdP_move rfl rfl)) rfl ?_
       refine ADA.r 4 rfl (ARdP.a (rdP_faddr_bx rfl fo_102_0 rfl rfl ⟨_, _, rfl⟩)) rfl ?_
       refine ADA.r 6 rfl (ARdP.a (rdP_nilc_bx rfl rfl rfl)) rfl ?_
       refine ADA.r 7 rfl (ARdP.a (rdP_faddr_bx rfl fo_99_2 rfl rfl ⟨_, _, rfl⟩)) rfl ?_
       refine ADA.r 10 rfl (ARdP.a (rdP_faddr_bx rfl fo_102_2 rfl rfl ⟨_, _, rfl⟩)) rfl ?_
       refine ADA.r 13 rfl (ARdP.a (rdP_nilc_bx rfl rfl rfl)) rfl ?_
       refine ADA.r 14 rfl (ARdP.a (rdP_faddr_bx rfl fo_99_2 rfl rfl ⟨_, _, rfl⟩)) rfl ?_
       refine ADA.b ?_
       refine ADB.all (is := [2, 5, 11]) (by kernel_rfl) (by simp) ?_
       intro i hi
       simp only [List.mem_cons, List.not_mem_nil, or_false] at hi
       rcases hi with rfl | rfl | rfl
       ·skip
        refine ⟨_, rfl, rfl, AOpB.op (ARd.opB (rd_load_bx rfl ag_3 rfl rfl rfl) ?_)⟩
        refine ADB.n ?_
        refine ADB.all (is := [5, 11]) (by kernel_rfl) (by simp) ?_
        intro i hi
        simp only [List.mem_cons, List.not_mem_nil, or_false] at hi
        rcases hi with rfl | rfl
        ·skip
         refine ⟨_, rfl, rfl, AOpB.op (ARd.opB (rd_load_bx rfl ag_3 rfl rfl rfl) ?_)⟩
         refine ADB.n ?_
         refine ADB.r 8 rfl (rdP_iaddr_bx_ 2 rfl ar_37 rfl rfl rfl) rfl ?_
         refine ADB.all (is := [9, 11]) (by kernel_rfl) (by simp) ?_
         intro i hi
         simp only [List.mem_cons, List.not_mem_nil, or_false] at hi
         rcases hi with rfl | rfl
         ·skip
          refine ⟨_, rfl, rfl, AOpB.op (ARd.opB (rd_load_bx rfl ag_29 rfl rfl rfl) ?_)⟩
          refine ADB.n ?_
          refine ADB.mv 11 rfl (AOpB.op (ARd.opB (rd_load_bx rfl ag_3 rfl rfl rfl) ?_))
          refine ADB.n ?_
          refine ADB.mv 12 rfl (AOpB.op (op_sliceM (n := d.q[j].size) rfl el_29 rfl rfl rfl rfl (by simp only [byA_len]; have := hsz h26; rw [hF] at this; exact this) ?_))
          refine ADB.n ?_
          refine ADB.r 15 rfl (rdP_iaddr_bx_ 2 rfl ar_37 rfl rfl rfl) rfl ?_
          refine ADB.mv 16 rfl (op_storo rfl rfl rfl rfl rfl sz_29 ?_)
          refine ADB.n ?_
          refine ADB.done (by kernel_rfl) ?_
          exact ⟨rfl, rfl⟩
         ·skip
          refine ⟨_, rfl, rfl, AOpB.op (ARd.opB (rd_load_bx rfl ag_3 rfl rfl rfl) ?_)⟩
          refine ADB.n ?_
          refine ADB.mv 9 rfl (AOpB.op (ARd.opB (rd_load_bx rfl ag_29 rfl rfl rfl) ?_))
          refine ADB.n ?_
          refine ADB.mv 12 rfl (AOpB.op (op_sliceM (n := d.q[j].size) rfl el_29 rfl rfl rfl rfl (by simp only [byA_len]; have := hsz h26; rw [hF] at this; exact this) ?_))
          refine ADB.n ?_
          refine ADB.r 15 rfl (rdP_iaddr_bx_ 2 rfl ar_37 rfl rfl rfl) rfl ?_
          refine ADB.mv 16 rfl (op_storo rfl rfl rfl rfl rfl sz_29 ?_)
          refine ADB.n ?_
          refine ADB.done (by kernel_rfl) ?_
          exact ⟨rfl, rfl⟩
        ·skip
         refine ⟨_, rfl, rfl, AOpB.op (ARd.opB (rd_load_bx rfl ag_3 rfl rfl rfl) ?_)⟩
         refine ADB.n ?_
         refine ADB.mv 5 rfl (AOpB.op (ARd.opB (rd_load_bx rfl ag_3 rfl rfl rfl) ?_))
         refine ADB.n ?_
         refine ADB.r 8 rfl (rdP_iaddr_bx_ 2 rfl ar_37 rfl rfl rfl) rfl ?_
         refine ADB.mv 9 rfl (AOpB.op (ARd.opB (rd_load_bx rfl ag_29 rfl rfl rfl) ?_))
         refine ADB.n ?_
         refine ADB.mv 12 rfl (AOpB.op (op_sliceM (n := d.q[j].size) rfl el_29 rfl rfl rfl rfl (by simp only [byA_len]; have := hsz h26; rw [hF] at this; exact this) ?_))
         refine ADB.n ?_
         refine ADB.r 15 rfl (rdP_iaddr_bx_ 2 rfl ar_37 rfl rfl rfl) rfl ?_
         refine ADB.mv 16 rfl (op_storo rfl rfl rfl rfl rfl sz_29 ?_)
         refine ADB.n ?_
         refine ADB.done (by kernel_rfl) ?_
         exact ⟨rfl, rfl⟩
       ·skip
        refine ⟨_, rfl, rfl, AOpB.op (ARd.opB (rd_load_bx rfl ag_3 rfl rfl rfl) ?_)⟩
        refine ADB.n ?_
        refine ADB.r 8 rfl (rdP_iaddr_bx_ 2 rfl ar_37 rfl rfl rfl) rfl ?_
        refine ADB.all (is := [2, 9, 11]) (by kernel_rfl) (by simp) ?_
        intro i hi
        simp only [List.mem_cons, List.not_mem_nil, or_false] at hi
        rcases hi with rfl | rfl | rfl
        ·skip
         refine ⟨_, rfl, rfl, AOpB.op (ARd.opB (rd_load_bx rfl ag_3 rfl rfl rfl) ?_)⟩
         refine ADB.n ?_
         refine ADB.all (is := [9, 11]) (by kernel_rfl) (by simp) ?_
         intro i hi
         simp only [List.mem_cons, List.not_mem_nil, or_false] at hi
         rcases hi with rfl | rfl
         ·skip
          refine ⟨_, rfl, rfl, AOpB.op (ARd.opB (rd_load_bx rfl ag_29 rfl rfl rfl) ?_)⟩
          refine ADB.n ?_
          refine ADB.mv 11 rfl (AOpB.op (ARd.opB (rd_load_bx rfl ag_3 rfl rfl rfl) ?_))
          refine ADB.n ?_
          refine ADB.mv 12 rfl (AOpB.op (op_sliceM (n := d.q[j].size) rfl el_29 rfl rfl rfl rfl (by simp only [byA_len]; have := hsz h26; rw [hF] at this; exact this) ?_))
          refine ADB.n ?_
          refine ADB.r 15 rfl (rdP_iaddr_bx_ 2 rfl ar_37 rfl rfl rfl) rfl ?_
          refine ADB.mv 16 rfl (op_storo rfl rfl rfl rfl rfl sz_29 ?_)
          refine ADB.n ?_
          refine ADB.done (by kernel_rfl) ?_
          exact ⟨rfl, rfl⟩
         ·skip
          refine ⟨_, rfl, rfl, AOpB.op (ARd.opB (rd_load_bx rfl ag_3 rfl rfl rfl) ?_)⟩
          refine ADB.n ?_
          refine ADB.mv 9 rfl (AOpB.op (ARd.opB (rd_load_bx rfl ag_29 rfl rfl rfl) ?_))
          refine ADB.n ?_
          refine ADB.mv 12 rfl (AOpB.op (op_sliceM (n := d.q[j].size) rfl el_29 rfl rfl rfl rfl (by simp only [byA_len]; have := hsz h26; rw [hF] at this; exact this) ?_))
          refine ADB.n ?_
          refine ADB.r 15 rfl (rdP_iaddr_bx_ 2 rfl ar_37 rfl rfl rfl) rfl ?_
          refine ADB.mv 16 rfl (op_storo rfl rfl rfl rfl rfl sz_29 ?_)
          refine ADB.n ?_
          refine ADB.done (by kernel_rfl) ?_
          exact ⟨rfl, rfl⟩
        ·skip
         refine ⟨_, rfl, rfl, AOpB.op (ARd.opB (rd_load_bx rfl ag_29 rfl rfl rfl) ?_)⟩
         refine ADB.n ?_
         refine ADB.all (is := [2, 11]) (by kernel_rfl) (by simp) ?_
         intro i hi
         simp only [List.mem_cons, List.not_mem_nil, or_false] at hi
         rcases hi with rfl | rfl
         ·skip
          refine ⟨_, rfl, rfl, AOpB.op (ARd.opB (rd_load_bx rfl ag_3 rfl rfl rfl) ?_)⟩
          refine ADB.n ?_
          refine ADB.mv 11 rfl (AOpB.op (ARd.opB (rd_load_bx rfl ag_3 rfl rfl rfl) ?_))
          refine ADB.n ?_
          refine ADB.mv 12 rfl (AOpB.op (op_sliceM (n := d.q[j].size) rfl el_29 rfl rfl rfl rfl (by simp only [byA_len]; have := hsz h26; rw [hF] at this; exact this) ?_))
          refine ADB.n ?_
          refine ADB.r 15 rfl (rdP_iaddr_bx_ 2 rfl ar_37 rfl rfl rfl) rfl ?_
          refine ADB.mv 16 rfl (op_storo rfl rfl rfl rfl rfl sz_29 ?_)
          refine ADB.n ?_
          refine ADB.done (by kernel_rfl) ?_
          exact ⟨rfl, rfl⟩
         ·skip
          refine ⟨_, rfl, rfl, AOpB.op (ARd.opB (rd_load_bx rfl ag_3 rfl rfl rfl) ?_)⟩
          refine ADB.n ?_
          refine ADB.all (is := [2, 12]) (by kernel_rfl) (by simp) ?_
          intro i hi
          simp only [List.mem_cons, List.not_mem_nil, or_false] at hi
          rcases hi with rfl | rfl
          ·skip
           refine ⟨_, rfl, rfl, AOpB.op (ARd.opB (rd_load_bx rfl ag_3 rfl rfl rfl) ?_)⟩
           refine ADB.n ?_
           refine ADB.mv 12 rfl (AOpB.op (op_sliceM (n := d.q[j].size) rfl el_29 rfl rfl rfl rfl (by simp only [byA_len]; have := hsz h26; rw [hF] at this; exact this) ?_))
           refine ADB.n ?_
           refine ADB.r 15 rfl (rdP_iaddr_bx_ 2 rfl ar_37 rfl rfl rfl) rfl ?_
           refine ADB.mv 16 rfl (op_storo rfl rfl rfl rfl rfl sz_29 ?_)
           refine ADB.n ?_
           refine ADB.done (by kernel_rfl) ?_
           exact ⟨rfl, rfl⟩
          ·skip
           refine ⟨_, rfl, rfl, AOpB.op (op_sliceM (n := d.q[j].size) rfl el_29 rfl rfl rfl rfl (by simp only [byA_len]; have := hsz h26; rw [hF] at this; exact this) ?_)⟩
           refine ADB.n ?_
           refine ADB.mv 2 rfl (AOpB.op (ARd.opB (rd_load_bx rfl ag_3 rfl rfl rfl) ?_))
           refine ADB.n ?_
           refine ADB.r 15 rfl (rdP_iaddr_bx_ 2 rfl ar_37 rfl rfl rfl) rfl ?_
           refine ADB.mv 16 rfl (op_storo rfl rfl rfl rfl rfl sz_29 ?_)
           refine ADB.n ?_
           refine ADB.done (by kernel_rfl) ?_
           exact ⟨rfl, rfl⟩
        ·skip
         refine ⟨_, rfl, rfl, AOpB.op (ARd.opB (rd_load_bx rfl ag_3 rfl rfl rfl) ?_)⟩
         refine ADB.n ?_
         refine ADB.all (is := [2, 9]) (by kernel_rfl) (by simp) ?_
         intro i hi
         simp only [List.mem_cons, List.not_mem_nil, or_false] at hi
         rcases hi with rfl | rfl
         ·skip
          refine ⟨_, rfl, rfl, AOpB.op (ARd.opB (rd_load_bx rfl ag_3 rfl rfl rfl) ?_)⟩
          refine ADB.n ?_
          refine ADB.mv 9 rfl (AOpB.op (ARd.opB (rd_load_bx rfl ag_29 rfl rfl rfl) ?_))
          refine ADB.n ?_
          refine ADB.mv 12 rfl (AOpB.op (op_sliceM (n := d.q[j].size) rfl el_29 rfl rfl rfl rfl (by simp only [byA_len]; have := hsz h26; rw [hF] at this; exact this) ?_))
          refine ADB.n ?_
          refine ADB.r 15 rfl (rdP_iaddr_bx_ 2 rfl ar_37 rfl rfl rfl) rfl ?_
          refine ADB.mv 16 rfl (op_storo rfl rfl rfl rfl rfl sz_29 ?_)
          refine ADB.n ?_
          refine ADB.done (by kernel_rfl) ?_
          exact ⟨rfl, rfl⟩
         ·skip
          refine ⟨_, rfl, rfl, AOpB.op (ARd.opB (rd_load_bx rfl ag_29 rfl rfl rfl) ?_)⟩
          refine ADB.n ?_
          refine ADB.all (is := [2, 12]) (by kernel_rfl) (by simp) ?_
          intro i hi
          simp only [List.mem_cons, List.not_mem_nil, or_false] at hi
          rcases hi with rfl | rfl
          ·skip
           refine ⟨_, rfl, rfl, AOpB.op (ARd.opB (rd_load_bx rfl ag_3 rfl rfl rfl) ?_)⟩
           refine ADB.n ?_
           refine ADB.mv 12 rfl (AOpB.op (op_sliceM (n := d.q[j].size) rfl el_29 rfl rfl rfl rfl (by simp only [byA_len]; have := hsz h26; rw [hF] at this; exact this) ?_))
           refine ADB.n ?_
           refine ADB.r 15 rfl (rdP_iaddr_bx_ 2 rfl ar_37 rfl rfl rfl) rfl ?_
           refine ADB.mv 16 rfl (op_storo rfl rfl rfl rfl rfl sz_29 ?_)
           refine ADB.n ?_
           refine ADB.done (by kernel_rfl) ?_
           exact ⟨rfl, rfl⟩
          ·skip
           refine ⟨_, rfl, rfl, AOpB.op (op_sliceM (n := d.q[j].size) rfl el_29 rfl rfl rfl rfl (by simp only [byA_len]; have := hsz h26; rw [hF] at this; exact this) ?_)⟩
           refine ADB.n ?_
           refine ADB.mv 2 rfl (AOpB.op (ARd.opB (rd_load_bx rfl ag_3 rfl rfl rfl) ?_))
           refine ADB.n ?_
           refine ADB.r 15 rfl (rdP_iaddr_bx_ 2 rfl ar_37 rfl rfl rfl) rfl ?_
           refine ADB.mv 16 rfl (op_storo rfl rfl rfl rfl rfl sz_29 ?_)
           refine ADB.n ?_
           refine ADB.done (by kernel_rfl) ?_
           exact ⟨rfl, rfl⟩
       ·skip
        refine ⟨_, rfl, rfl, AOpB.op (ARd.opB (rd_load_bx rfl ag_3 rfl rfl rfl) ?_)⟩
        refine ADB.n ?_
        refine ADB.all (is := [2, 5]) (by kernel_rfl) (by simp) ?_
        intro i hi
        simp only [List.mem_cons, List.not_mem_nil, or_false] at hi
        rcases hi with rfl | rfl
        ·skip
         refine ⟨_, rfl, rfl, AOpB.op (ARd.opB (rd_load_bx rfl ag_3 rfl rfl rfl) ?_)⟩
         refine ADB.n ?_
         refine ADB.mv 5 rfl (AOpB.op (ARd.opB (rd_load_bx rfl ag_3 rfl rfl rfl) ?_))
         refine ADB.n ?_
         refine ADB.r 8 rfl (rdP_iaddr_bx_ 2 rfl ar_37 rfl rfl rfl) rfl ?_
         refine ADB.mv 9 rfl (AOpB.op (ARd.opB (rd_load_bx rfl ag_29 rfl rfl rfl) ?_))
         refine ADB.n ?_
         refine ADB.mv 12 rfl (AOpB.op (op_sliceM (n := d.q[j].size) rfl el_29 rfl rfl rfl rfl (by simp only [byA_len]; have := hsz h26; rw [hF] at this; exact this) ?_))
         refine ADB.n ?_
         refine ADB.r 15 rfl (rdP_iaddr_bx_ 2 rfl ar_37 rfl rfl rfl) rfl ?_
         refine ADB.mv 16 rfl (op_storo rfl rfl rfl rfl rfl sz_29 ?_)
         refine ADB.n ?_
         refine ADB.done (by kernel_rfl) ?_
         exact ⟨rfl, rfl⟩
        ·skip
         refine ⟨_, rfl, rfl, AOpB.op (ARd.opB (rd_load_bx rfl ag_3 rfl rfl rfl) ?_)⟩
         refine ADB.n ?_
         refine ADB.r 8 rfl (rdP_iaddr_bx_ 2 rfl ar_37 rfl rfl rfl) rfl ?_
         refine ADB.all (is := [2, 9]) (by kernel_rfl) (by simp) ?_
         intro i hi
         simp only [List.mem_cons, List.not_mem_nil, or_false] at hi
         rcases hi with rfl | rfl
         ·skip
          refine ⟨_, rfl, rfl, AOpB.op (ARd.opB (rd_load_bx rfl ag_3 rfl rfl rfl) ?_)⟩
          refine ADB.n ?_
          refine ADB.mv 9 rfl (AOpB.op (ARd.opB (rd_load_bx rfl ag_29 rfl rfl rfl) ?_))
          refine ADB.n ?_
          refine ADB.mv 12 rfl (AOpB.op (op_sliceM (n := d.q[j].size) rfl el_29 rfl rfl rfl rfl (by simp only [byA_len]; have := hsz h26; rw [hF] at this; exact this) ?_))
          refine ADB.n ?_
          refine ADB.r 15 rfl (rdP_iaddr_bx_ 2 rfl ar_37 rfl rfl rfl) rfl ?_
          refine ADB.mv 16 rfl (op_storo rfl rfl rfl rfl rfl sz_29 ?_)
          refine ADB.n ?_
          refine ADB.done (by kernel_rfl) ?_
          exact ⟨rfl, rfl⟩
         ·skip
          refine ⟨_, rfl, rfl, AOpB.op (ARd.opB (rd_load_bx rfl ag_29 rfl rfl rfl) ?_)⟩
          refine ADB.n ?_
          refine ADB.all (is := [2, 12]) (by kernel_rfl) (by simp) ?_
          intro i hi
          simp only [List.mem_cons, List.not_mem_nil, or_false] at hi
          rcases hi with rfl | rfl
          ·skip
           refine ⟨_, rfl, rfl, AOpB.op (ARd.opB (rd_load_bx rfl ag_3 rfl rfl rfl) ?_)⟩
           refine ADB.n ?_
           refine ADB.mv 12 rfl (AOpB.op (op_sliceM (n := d.q[j].size) rfl el_29 rfl rfl rfl rfl (by simp only [byA_len]; have := hsz h26; rw [hF] at this; exact this) ?_))
           refine ADB.n ?_
           refine ADB.r 15 rfl (rdP_iaddr_bx_ 2 rfl ar_37 rfl rfl rfl) rfl ?_
           refine ADB.mv 16 rfl (op_storo rfl rfl rfl rfl rfl sz_29 ?_)
           refine ADB.n ?_
           refine ADB.done (by kernel_rfl) ?_
           exact ⟨rfl, rfl⟩
          ·skip
           refine ⟨_, rfl, rfl, AOpB.op (op_sliceM (n := d.q[j].size) rfl el_29 rfl rfl rfl rfl (by simp only [byA_len]; have := hsz h26; rw [hF] at this; exact this) ?_)⟩
           refine ADB.n ?_
           refine ADB.mv 2 rfl (AOpB.op (ARd.opB (rd_load_bx rfl ag_3 rfl rfl rfl) ?_))
           refine ADB.n ?_
           refine ADB.r 15 rfl (rdP_iaddr_bx_ 2 rfl ar_37 rfl rfl rfl) rfl ?_
           refine ADB.mv 16 rfl (op_storo rfl rfl rfl rfl rfl sz_29 ?_)
           refine ADB.n ?_
           refine ADB.done (by kernel_rfl) ?_
           exact ⟨rfl, rfl⟩
      skip
      change AW _ _ _ _ _
      refine AW.region ?_
      refine AL.r (rd_arith_add rfl rfl rfl (by first | exact IntWalk.i64_in _ (by omega) | rfl)) ?_
      refine AL.rm ?_
      refine AL.nil ?_
      refine ⟨⟨j + 1, kp - cntN d.q[j] kp, stepL d.q[j] (cntN d.q[j] kp).toNat s, a5, a6, a7 + 1, a8⟩, ?_, by first | omega | (simp only []; omega), ?_, ?_⟩
      ·exact hJ.next hjl h0
      ·simp only [anys, upds, offs, List.set_cons_zero, List.set_cons_succ]; repeat (first | exact Wk.nil | refine Wk.same ?_ | refine Wk.any ?_)
      ·simp only [anys, upds, offs, List.set_cons_zero, List.set_cons_succ]; repeat (first | exact Sk.nil _ | refine Sk.same _ ?_ | refine Sk.scr _ (by decide) ?_ | refine Sk.eq _ (by simp [stepL, upd, hF, h26]) ?_)
     ·skip
      apply AW.drawS (by kernel_rfl)
      ·skip
       refine ADA.r 0 rfl (ARdP.a (rdP_move rfl rfl)) rfl ?_
       refine ADA.r 1 rfl (ARdP.a (rdP_faddr_bx rfl fo_102_0 rfl rfl ⟨_, _, rfl⟩)) rfl ?_
       refine ADA.r 3 rfl (ARdP.a (rdP_move rfl rfl)) rfl ?_
       refine ADA.r 4 rfl (ARdP.a (rdP_faddr_bx rfl fo_102_0 rfl rfl ⟨_, _, rfl⟩)) rfl ?_
       refine ADA.r 6 rfl (ARdP.a (rdP_nilc_bx rfl rfl rfl)) rfl ?_
       refine ADA.r 7 rfl (ARdP.a (rdP_faddr_bx rfl fo_99_2 rfl rfl ⟨_, _, rfl⟩)) rfl ?_
       refine ADA.r 10 rfl (ARdP.a (rdP_faddr_bx rfl fo_102_2 rfl rfl ⟨_, _, rfl⟩)) rfl ?_
       refine ADA.r 13 rfl (ARdP.a (rdP_nilc_bx rfl rfl rfl)) rfl ?_
       refine ADA.r 14 rfl (ARdP.a (rdP_faddr_bx rfl fo_99_2 rfl rfl ⟨_, _, rfl⟩)) rfl ?_
       refine ADA.b ?_
       refine ADB.all (is := [2, 5, 11]) (by kernel_rfl) (by simp) ?_
       intro i hi
       simp only [List.mem_cons, List.not_mem_nil, or_false] at hi
       rcases hi with rfl | rfl | rfl
       ·skip
        refine ⟨_, rfl, rfl, AOpB.op (ARd.opB (rd_load_bx rfl ag_3 rfl rfl rfl) ?_)⟩
        refine ADB.n ?_
        refine ADB.all (is := [5, 11]) (by kernel_rfl) (by simp) ?_
        intro i hi
        simp only [List.mem_cons, List.not_mem_nil, or_false] at hi
        rcases hi with rfl | rfl
        ·skip
         refine ⟨_, rfl, rfl, AOpB.op (ARd.opB (rd_load_bx rfl ag_3 rfl rfl rfl) ?_)⟩
         refine ADB.n ?_
         refine ADB.r 8 rfl (rdP_iaddr_bx_ 3 rfl ar_37 rfl rfl rfl) rfl ?_
         refine ADB.all (is := [9, 11]) (by kernel_rfl) (by simp) ?_
         intro i hi
         simp only [List.mem_cons, List.not_mem_nil, or_false] at hi
         rcases hi with rfl | rfl
         ·skip
          refine ⟨_, rfl, rfl, AOpB.op (ARd.opB (rd_load_bx rfl ag_29 rfl rfl rfl) ?_)⟩
          refine ADB.n ?_
          refine ADB.mv 11 rfl (AOpB.op (ARd.opB (rd_load_bx rfl ag_3 rfl rfl rfl) ?_))
          refine ADB.n ?_
          refine ADB.mv 12 rfl (AOpB.op (op_sliceM (n := d.q[j].size) rfl el_29 rfl rfl rfl rfl (by simp only [byA_len]; have := hsz h26; rw [hF] at this; exact this) ?_))
          refine ADB.n ?_
          refine ADB.r 15 rfl (rdP_iaddr_bx_ 3 rfl ar_37 rfl rfl rfl) rfl ?_
          refine ADB.mv 16 rfl (op_storo rfl rfl rfl rfl rfl sz_29 ?_)
          refine ADB.n ?_
          refine ADB.done (by kernel_rfl) ?_
          exact ⟨rfl, rfl⟩
         ·skip
          refine ⟨_, rfl, rfl, AOpB.op (ARd.opB (rd_load_bx rfl ag_3 rfl rfl rfl) ?_)⟩
          refine ADB.n ?_
          refine ADB.mv 9 rfl (AOpB.op (ARd.opB (rd_load_bx rfl ag_29 rfl rfl rfl) ?_))
          refine ADB.n ?_
          refine ADB.mv 12 rfl (AOpB.op (op_sliceM (n := d.q[j].size) rfl el_29 rfl rfl rfl rfl (by simp only [byA_len]; have := hsz h26; rw [hF] at this; exact this) ?_))
          refine ADB.n ?_
          refine ADB.r 15 rfl (rdP_iaddr_bx_ 3 rfl ar_37 rfl rfl rfl) rfl ?_
          refine ADB.mv 16 rfl (op_storo rfl rfl rfl rfl rfl sz_29 ?_)
          refine ADB.n ?_
          refine ADB.done (by kernel_rfl) ?_
          exact ⟨rfl, rfl⟩
        ·skip
         refine ⟨_, rfl, rfl, AOpB.op (ARd.opB (rd_load_bx rfl ag_3 rfl rfl rfl) ?_)⟩
         refine ADB.n ?_
         refine ADB.mv 5 rfl (AOpB.op (ARd.opB (rd_load_bx rfl ag_3 rfl rfl rfl) ?_))
         refine ADB.n ?_
         refine ADB.r 8 rfl (rdP_iaddr_bx_ 3 rfl ar_37 rfl rfl rfl) rfl ?_
         refine ADB.mv 9 rfl (AOpB.op (ARd.opB (rd_load_bx rfl ag_29 rfl rfl rfl) ?_))
         refine ADB.n ?_
         refine ADB.mv 12 rfl (AOpB.op (op_sliceM (n := d.q[j].size) rfl el_29 rfl rfl rfl rfl (by simp only [byA_len]; have := hsz h26; rw [hF] at this; exact this) ?_))
         refine ADB.n ?_
         refine ADB.r 15 rfl (rdP_iaddr_bx_ 3 rfl ar_37 rfl rfl rfl) rfl ?_
         refine ADB.mv 16 rfl (op_storo rfl rfl rfl rfl rfl sz_29 ?_)
         refine ADB.n ?_
         refine ADB.done (by kernel_rfl) ?_
         exact ⟨rfl, rfl⟩
       ·skip
        refine ⟨_, rfl, rfl, AOpB.op (ARd.opB (rd_load_bx rfl ag_3 rfl rfl rfl) ?_)⟩
        refine ADB.n ?_
        refine ADB.r 8 rfl (rdP_iaddr_bx_ 3 rfl ar_37 rfl rfl rfl) rfl ?_
        refine ADB.all (is := [2, 9, 11]) (by kernel_rfl) (by simp) ?_
        intro i hi
        simp only [List.mem_cons, List.not_mem_nil, or_false] at hi
        rcases hi with rfl | rfl | rfl
        ·skip
         refine ⟨_, rfl, rfl, AOpB.op (ARd.opB (rd_load_bx rfl ag_3 rfl rfl rfl) ?_)⟩
         refine ADB.n ?_
         refine ADB.all (is := [9, 11]) (by kernel_rfl) (by simp) ?_
         intro i hi
         simp only [List.mem_cons, List.not_mem_nil, or_false] at hi
         rcases hi with rfl | rfl
         ·skip
          refine ⟨_, rfl, rfl, AOpB.op (ARd.opB (rd_load_bx rfl ag_29 rfl rfl rfl) ?_)⟩
          refine ADB.n ?_
          refine ADB.mv 11 rfl (AOpB.op (ARd.opB (rd_load_bx rfl ag_3 rfl rfl rfl) ?_))
          refine ADB.n ?_
          refine ADB.mv 12 rfl (AOpB.op (op_sliceM (n := d.q[j].size) rfl el_29 rfl rfl rfl rfl (by simp only [byA_len]; have := hsz h26; rw [hF] at this; exact this) ?_))
          refine ADB.n ?_
          refine ADB.r 15 rfl (rdP_iaddr_bx_ 3 rfl ar_37 rfl rfl rfl) rfl ?_
          refine ADB.mv 16 rfl (op_storo rfl rfl rfl rfl rfl sz_29 ?_)
          refine ADB.n ?_
          refine ADB.done (by kernel_rfl) ?_
          exact ⟨rfl, rfl⟩
         ·skip
          refine ⟨_, rfl, rfl, AOpB.op (ARd.opB (rd_load_bx rfl ag_3 rfl rfl rfl) ?_)⟩
          refine ADB.n ?_
          refine ADB.mv 9 rfl (AOpB.op (ARd.opB (rd_load_bx rfl ag_29 rfl rfl rfl) ?_))
          refine ADB.n ?_
          refine ADB.mv 12 rfl (AOpB.op (op_sliceM (n := d.q[j].size) rfl el_29 rfl rfl rfl rfl (by simp only [byA_len]; have := hsz h26; rw [hF] at this; exact this) ?_))
          refine ADB.n ?_
          refine ADB.r 15 rfl (rdP_iaddr_bx_ 3 rfl ar_37 rfl rfl rfl) rfl ?_
          refine ADB.mv 16 rfl (op_storo rfl rfl rfl rfl rfl sz_29 ?_)
          refine ADB.n ?_
          refine ADB.done (by kernel_rfl) ?_
          exact ⟨rfl, rfl⟩
        ·skip
         refine ⟨_, rfl, rfl, AOpB.op (ARd.opB (rd_load_bx rfl ag_29 rfl rfl rfl) ?_)⟩
         refine ADB.n ?_
         refine ADB.all (is := [2, 11]) (by kernel_rfl) (by simp) ?_
         intro i hi
         simp only [List.mem_cons, List.not_mem_nil, or_false] at hi
         rcases hi with rfl | rfl
         ·skip
          refine ⟨_, rfl, rfl, AOpB.op (ARd.opB (rd_load_bx rfl ag_3 rfl rfl rfl) ?_)⟩
          refine ADB.n ?_
          refine ADB.mv 11 rfl (AOpB.op (ARd.opB (rd_load_bx rfl ag_3 rfl rfl rfl) ?_))
          refine ADB.n ?_
          refine ADB.mv 12 rfl (AOpB.op (op_sliceM (n := d.q[j].size) rfl el_29 rfl rfl rfl rfl (by simp only [byA_len]; have := hsz h26; rw [hF] at this; exact this) ?_))
          refine ADB.n ?_
          refine ADB.r 15 rfl (rdP_iaddr_bx_ 3 rfl ar_37 rfl rfl rfl) rfl ?_
          refine ADB.mv 16 rfl (op_storo rfl rfl rfl rfl rfl sz_29 ?_)
          refine ADB.n ?_
          refine ADB.done (by kernel_rfl) ?_
          exact ⟨rfl, rfl⟩
         ·skip
          refine ⟨_, rfl, rfl, AOpB.op (ARd.opB (rd_load_bx rfl ag_3 rfl rfl rfl) ?_)⟩
          refine ADB.n ?_
          refine ADB.all (is := [2, 12]) (by kernel_rfl) (by simp) ?_
          intro i hi
          simp only [List.mem_cons, List.not_mem_nil, or_false] at hi
          rcases hi with rfl | rfl
          ·skip
           refine ⟨_, rfl, rfl, AOpB.op (ARd.opB (rd_load_bx rfl ag_3 rfl rfl rfl) ?_)⟩
           refine ADB.n ?_
           refine ADB.mv 12 rfl (AOpB.op (op_sliceM (n := d.q[j].size) rfl el_29 rfl rfl rfl rfl (by simp only [byA_len]; have := hsz h26; rw [hF] at this; exact this) ?_))
           refine ADB.n ?_
           refine ADB.r 15 rfl (rdP_iaddr_bx_ 3 rfl ar_37 rfl rfl rfl) rfl ?_
           refine ADB.mv 16 rfl (op_storo rfl rfl rfl rfl rfl sz_29 ?_)
           refine ADB.n ?_
           refine ADB.done (by kernel_rfl) ?_
           exact ⟨rfl, rfl⟩
          ·skip
           refine ⟨_, rfl, rfl, AOpB.op (op_sliceM (n := d.q[j].size) rfl el_29 rfl rfl rfl rfl (by simp only [byA_len]; have := hsz h26; rw [hF] at this; exact this) ?_)⟩
           refine ADB.n ?_
           refine ADB.mv 2 rfl (AOpB.op (ARd.opB (rd_load_bx rfl ag_3 rfl rfl rfl) ?_))
           refine ADB.n ?_
           refine ADB.r 15 rfl (rdP_iaddr_bx_ 3 rfl ar_37 rfl rfl rfl) rfl ?_
           refine ADB.mv 16 rfl (op_storo rfl rfl rfl rfl rfl sz_29 ?_)
           refine ADB.n ?_
           refine ADB.done (by kernel_rfl) ?_
           exact ⟨rfl, rfl⟩
        ·skip
         refine ⟨_, rfl, rfl, AOpB.op (ARd.opB (rd_load_bx rfl ag_3 rfl rfl rfl) ?_)⟩
         refine ADB.n ?_
         refine ADB.all (is := [2, 9]) (by kernel_rfl) (by simp) ?_
         intro i hi
         simp only [List.mem_cons, List.not_mem_nil, or_false] at hi
         rcases hi with rfl | rfl
         ·skip
          refine ⟨_, rfl, rfl, AOpB.op (ARd.opB (rd_load_bx rfl ag_3 rfl rfl rfl) ?_)⟩
          refine ADB.n ?_
          refine ADB.mv 9 rfl (AOpB.op (ARd.opB (rd_load_bx rfl ag_29 rfl rfl rfl) ?_))
          refine ADB.n ?_
          refine ADB.mv 12 rfl (AOpB.op (op_sliceM (n := d.q[j].size) rfl el_29 rfl rfl rfl rfl (by simp only [byA_len]; have := hsz h26; rw [hF] at this; exact this) ?_))
          refine ADB.n ?_
          refine ADB.r 15 rfl (rdP_iaddr_bx_ 3 rfl ar_37 rfl rfl rfl) rfl ?_
          refine ADB.mv 16 rfl (op_storo rfl rfl rfl rfl rfl sz_29 ?_)
          refine ADB.n ?_
          refine ADB.done (by kernel_rfl) ?_
          exact ⟨rfl, rfl⟩
         ·skip
          refine ⟨_, rfl, rfl, AOpB.op (ARd.opB (rd_load_bx rfl ag_29 rfl rfl rfl) ?_)⟩
          refine ADB.n ?_
          refine ADB.all (is := [2, 12]) (by kernel_rfl) (by simp) ?_
          intro i hi
          simp only [List.mem_cons, List.not_mem_nil, or_false] at hi
          rcases hi with rfl | rfl
          ·skip
           refine ⟨_, rfl, rfl, AOpB.op (ARd.opB (rd_load_bx rfl ag_3 rfl rfl rfl) ?_)⟩
           refine ADB.n ?_
           refine ADB.mv 12 rfl (AOpB.op (op_sliceM (n := d.q[j].size) rfl el_29 rfl rfl rfl rfl (by simp only [byA_len]; have := hsz h26; rw [hF] at this; exact this) ?_))
           refine ADB.n ?_
           refine ADB.r 15 rfl (rdP_iaddr_bx_ 3 rfl ar_37 rfl rfl rfl) rfl ?_
           refine ADB.mv 16 rfl (op_storo rfl rfl rfl rfl rfl sz_29 ?_)
           refine ADB.n ?_
           refine ADB.done (by kernel_rfl) ?_
           exact ⟨rfl, rfl⟩
          ·skip
           refine ⟨_, rfl, rfl, AOpB.op (op_sliceM (n := d.q[j].size) rfl el_29 rfl rfl rfl rfl (by simp only [byA_len]; have := hsz h26; rw [hF] at this; exact this) ?_)⟩
           refine ADB.n ?_
           refine ADB.mv 2 rfl (AOpB.op (ARd.opB (rd_load_bx rfl ag_3 rfl rfl rfl) ?_))
           refine ADB.n ?_
           refine ADB.r 15 rfl (rdP_iaddr_bx_ 3 rfl ar_37 rfl rfl rfl) rfl ?_
           refine ADB.mv 16 rfl (op_storo rfl rfl rfl rfl rfl sz_29 ?_)
           refine ADB.n ?_
           refine ADB.done (by kernel_rfl) ?_
           exact ⟨rfl, rfl⟩
       ·skip
        refine ⟨_, rfl, rfl, AOpB.op (ARd.opB (rd_load_bx rfl ag_3 rfl rfl rfl) ?_)⟩
        refine ADB.n ?_
        refine ADB.all (is := [2, 5]) (by kernel_rfl) (by simp) ?_
        intro i hi
        simp only [List.mem_cons, List.not_mem_nil, or_false] at hi
        rcases hi with rfl | rfl
        ·skip
         refine ⟨_, rfl, rfl, AOpB.op (ARd.opB (rd_load_bx rfl ag_3 rfl rfl rfl) ?_)⟩
         refine ADB.n ?_
         refine ADB.mv 5 rfl (AOpB.op (ARd.opB (rd_load_bx rfl ag_3 rfl rfl rfl) ?_))
         refine ADB.n ?_
         refine ADB.r 8 rfl (rdP_iaddr_bx_ 3 rfl ar_37 rfl rfl rfl) rfl ?_
         refine ADB.mv 9 rfl (AOpB.op (ARd.opB (rd_load_bx rfl ag_29 rfl rfl rfl) ?_))
         refine ADB.n ?_
         refine ADB.mv 12 rfl (AOpB.op (op_sliceM (n := d.q[j].size) rfl el_29 rfl rfl rfl rfl (by simp only [byA_len]; have := hsz h26; rw [hF] at this; exact this) ?_))
         refine ADB.n ?_
         refine ADB.r 15 rfl (rdP_iaddr_bx_ 3 rfl ar_37 rfl rfl rfl) rfl ?_
         refine ADB.mv 16 rfl (op_storo rfl rfl rfl rfl rfl sz_29 ?_)
         refine ADB.n ?_
         refine ADB.done (by kernel_rfl) ?_
         exact ⟨rfl, rfl⟩
        ·skip
         refine ⟨_, rfl, rfl, AOpB.op (ARd.opB (rd_load_bx rfl ag_3 rfl rfl rfl) ?_)⟩
         refine ADB.n ?_
         refine ADB.r 8 rfl (rdP_iaddr_bx_ 3 rfl ar_37 rfl rfl rfl) rfl ?_
         refine ADB.all (is := [2, 9]) (by kernel_rfl) (by simp) ?_
         intro i hi
         simp only [List.mem_cons, List.not_mem_nil, or_false] at hi
         rcases hi with rfl | rfl
         ·skip
          refine ⟨_, rfl, rfl, AOpB.op (ARd.opB (rd_load_bx rfl ag_3 rfl rfl rfl) ?_)⟩
          refine ADB.n ?_
          refine ADB.mv 9 rfl (AOpB.op (ARd.opB (rd_load_bx rfl ag_29 rfl rfl rfl) ?_))
          refine ADB.n ?_
          refine ADB.mv 12 rfl (AOpB.op (op_sliceM (n := d.q[j].size) rfl el_29 rfl rfl rfl rfl (by simp only [byA_len]; have := hsz h26; rw [hF] at this; exact this) ?_))
          refine ADB.n ?_
          refine ADB.r 15 rfl (rdP_iaddr_bx_ 3 rfl ar_37 rfl rfl rfl) rfl ?_
          refine ADB.mv 16 rfl (op_storo rfl rfl rfl rfl rfl sz_29 ?_)
          refine ADB.n ?_
          refine ADB.done (by kernel_rfl) ?_
          exact ⟨rfl, rfl⟩
         ·skip
          refine ⟨_, rfl, rfl, AOpB.op (ARd.opB (rd_load_bx rfl ag_29 rfl rfl rfl) ?_)⟩
          refine ADB.n ?_
          refine ADB.all (is := [2, 12]) (by kernel_rfl) (by simp) ?_
          intro i hi
          simp only [List.mem_cons, List.not_mem_nil, or_false] at hi
          rcases hi with rfl | rfl
          ·skip
           refine ⟨_, rfl, rfl, AOpB.op (ARd.opB (rd_load_bx rfl ag_3 rfl rfl rfl) ?_)⟩
           refine ADB.n ?_
           refine ADB.mv 12 rfl (AOpB.op (op_sliceM (n := d.q[j].size) rfl el_29 rfl rfl rfl rfl (by simp only [byA_len]; have := hsz h26; rw [hF] at this; exact this) ?_))
           refine ADB.n ?_
           refine ADB.r 15 rfl (rdP_iaddr_bx_ 3 rfl ar_37 rfl rfl rfl) rfl ?_
           refine ADB.mv 16 rfl (op_storo rfl rfl rfl rfl rfl sz_29 ?_)
           refine ADB.n ?_
           refine ADB.done (by kernel_rfl) ?_
           exact ⟨rfl, rfl⟩
          ·skip
           refine ⟨_, rfl, rfl, AOpB.op (op_sliceM (n := d.q[j].size) rfl el_29 rfl rfl rfl rfl (by simp only [byA_len]; have := hsz h26; rw [hF] at this; exact this) ?_)⟩
           refine ADB.n ?_
           refine ADB.mv 2 rfl (AOpB.op (ARd.opB (rd_load_bx rfl ag_3 rfl rfl rfl) ?_))
           refine ADB.n ?_
           refine ADB.r 15 rfl (rdP_iaddr_bx_ 3 rfl ar_37 rfl rfl rfl) rfl ?_
           refine ADB.mv 16 rfl (op_storo rfl rfl rfl rfl rfl sz_29 ?_)
           refine ADB.n ?_
           refine ADB.done (by kernel_rfl) ?_
           exact ⟨rfl, rfl⟩
      skip
      change AW _ _ _ _ _
      refine AW.region ?_
      refine AL.r (rd_arith_add rfl rfl rfl (by first | exact IntWalk.i64_in _ (by omega) | rfl)) ?_
      refine AL.rm ?_
      refine AL.nil ?_
      refine ⟨⟨j + 1, kp - cntN d.q[j] kp, stepL d.q[j] (cntN d.q[j] kp).toNat s, a5, a6, a7, a8 + 1⟩, ?_, by first | omega | (simp only []; omega), ?_, ?_⟩
      ·exact hJ.next hjl h0
      ·simp only [anys, upds, offs, List.set_cons_zero, List.set_cons_succ]; repeat (first | exact Wk.nil | refine Wk.same ?_ | refine Wk.any ?_)
      ·simp only [anys, upds, offs, List.set_cons_zero, List.set_cons_succ]; repeat (first | exact Sk.nil _ | refine Sk.same _ ?_ | refine Sk.scr _ (by decide) ?_ | refine Sk.eq _ (by simp [stepL, upd, hF, h26]) ?_)
    ·skip
     rcases hF with hF | hF | hF | hF <;> rw [hF]
     ·skip
      apply AW.drawS (by kernel_rfl)
      ·skip
       refine ADA.r 0 rfl (ARdP.a (rdP_move rfl rfl)) rfl ?_
       refine ADA.r 1 rfl (ARdP.a (rdP_faddr_bx rfl fo_102_0 rfl rfl ⟨_, _, rfl⟩)) rfl ?_
       refine ADA.r 3 rfl (ARdP.a (rdP_move rfl rfl)) rfl ?_
       refine ADA.r 4 rfl (ARdP.a (rdP_faddr_bx rfl fo_102_0 rfl rfl ⟨_, _, rfl⟩)) rfl ?_
       refine ADA.r 6 rfl (ARdP.a (rdP_nilc_bx rfl rfl rfl)) rfl ?_
       refine ADA.r 7 rfl (ARdP.a (rdP_faddr_bx rfl fo_99_2 rfl rfl ⟨_, _, rfl⟩)) rfl ?_
       refine ADA.r 10 rfl (ARdP.a (rdP_faddr_bx rfl fo_102_3 rfl rfl ⟨_, _, rfl⟩)) rfl ?_
       refine ADA.r 12 rfl (ARdP.a (rdP_move rfl rfl)) rfl ?_
       refine ADA.r 15 rfl (ARdP.a (rdP_nilc_bx rfl rfl rfl)) rfl ?_
       refine ADA.r 16 rfl (ARdP.a (rdP_faddr_bx rfl fo_99_2 rfl rfl ⟨_, _, rfl⟩)) rfl ?_
       refine ADA.b ?_
       refine ADB.all (is := [2, 5, 11]) (by kernel_rfl) (by simp) ?_
       intro i hi
       simp only [List.mem_cons, List.not_mem_nil, or_false] at hi
       rcases hi with rfl | rfl | rfl
       ·skip
        refine ⟨_, rfl, rfl, AOpB.op (ARd.opB (rd_load_bx rfl ag_3 rfl rfl rfl) ?_)⟩
        refine ADB.n ?_
        refine ADB.all (is := [5, 11]) (by kernel_rfl) (by simp) ?_
        intro i hi
        simp only [List.mem_cons, List.not_mem_nil, or_false] at hi
        rcases hi with rfl | rfl
        ·skip
         refine ⟨_, rfl, rfl, AOpB.op (ARd.opB (rd_load_bx rfl ag_3 rfl rfl rfl) ?_)⟩
         refine ADB.n ?_
         refine ADB.r 8 rfl (rdP_iaddr_bx_ 0 rfl ar_37 rfl rfl rfl) rfl ?_
         refine ADB.all (is := [9, 11]) (by kernel_rfl) (by simp) ?_
         intro i hi
         simp only [List.mem_cons, List.not_mem_nil, or_false] at hi
         rcases hi with rfl | rfl
         ·skip
          refine ⟨_, rfl, rfl, AOpB.op (ARd.opB (rd_load_bx rfl ag_29 rfl rfl rfl) ?_)⟩
          refine ADB.n ?_
          refine ADB.mv 11 rfl (AOpB.op (ARd.opB (rd_load_bx rfl ag_29 rfl rfl rfl) ?_))
          refine ADB.n ?_
          refine ADB.r 13 rfl (rdP_slice_sl rfl el_29 rfl byA_one rfl ⟨_, _, rfl, (Int.toNat_of_nonneg (by omega)).symm⟩ (by omega) (by simp only [byA_len]; simp only [DeedD.count, h26, Bool.false_eq_true, if_false] at hcn; exact hcn)) rfl ?_
          refine ADB.mv 14 rfl (op_appendM rfl ap_29 rfl rfl (src_s rfl) (by rw [hF] at hbl; simp [byA_len]; omega) (by rw [hF] at hbl; simp [byA_len]; omega) ?_)
          refine ADB.n ?_
          refine ADB.r 17 rfl (rdP_iaddr_bx_ 0 rfl ar_37 rfl rfl rfl) rfl ?_
          refine ADB.mv 18 rfl (op_storo rfl rfl rfl rfl rfl sz_29 ?_)
          refine ADB.n ?_
          refine ADB.done (by kernel_rfl) ?_
          exact ⟨rfl, rfl⟩
         ·skip
          refine ⟨_, rfl, rfl, AOpB.op (ARd.opB (rd_load_bx rfl ag_29 rfl rfl rfl) ?_)⟩
          refine ADB.n ?_
          refine ADB.r 13 rfl (rdP_slice_sl rfl el_29 rfl byA_one rfl ⟨_, _, rfl, (Int.toNat_of_nonneg (by omega)).symm⟩ (by omega) (by simp only [byA_len]; simp only [DeedD.count, h26, Bool.false_eq_true, if_false] at hcn; exact hcn)) rfl ?_
          refine ADB.mv 9 rfl (AOpB.op (ARd.opB (rd_load_bx rfl ag_29 rfl rfl rfl) ?_))
          refine ADB.n ?_
          refine ADB.mv 14 rfl (op_appendM rfl ap_29 rfl rfl (src_s rfl) (by rw [hF] at hbl; simp [byA_len]; omega) (by rw [hF] at hbl; simp [byA_len]; omega) ?_)
          refine ADB.n ?_
          refine ADB.r 17 rfl (rdP_iaddr_bx_ 0 rfl ar_37 rfl rfl rfl) rfl ?_
          refine ADB.mv 18 rfl (op_storo rfl rfl rfl rfl rfl sz_29 ?_)
          refine ADB.n ?_
          refine ADB.done (by kernel_rfl) ?_
          exact ⟨rfl, rfl⟩
        ·skip
         refine ⟨_, rfl, rfl, AOpB.op (ARd.opB (rd_load_bx rfl ag_29 rfl rfl rfl) ?_)⟩
         refine ADB.n ?_
         refine ADB.r 13 rfl (rdP_slice_sl rfl el_29 rfl byA_one rfl ⟨_, _, rfl, (Int.toNat_of_nonneg (by omega)).symm⟩ (by omega) (by simp only [byA_len]; simp only [DeedD.count, h26, Bool.false_eq_true, if_false] at hcn; exact hcn)) rfl ?_
         refine ADB.mv 5 rfl (AOpB.op (ARd.opB (rd_load_bx rfl ag_3 rfl rfl rfl) ?_))
         refine ADB.n ?_
         refine ADB.r 8 rfl (rdP_iaddr_bx_ 0 rfl ar_37 rfl rfl rfl) rfl ?_
         refine ADB.mv 9 rfl (AOpB.op (ARd.opB (rd_load_bx rfl ag_29 rfl rfl rfl) ?_))
         refine ADB.n ?_
         refine ADB.mv 14 rfl (op_appendM rfl ap_29 rfl rfl (src_s rfl) (by rw [hF] at hbl; simp [byA_len]; omega) (by rw [hF] at hbl; simp [byA_len]; omega) ?_)
         refine ADB.n ?_
         refine ADB.r 17 rfl (rdP_iaddr_bx_ 0 rfl ar_37 rfl rfl rfl) rfl ?_
         refine ADB.mv 18 rfl (op_storo rfl rfl rfl rfl rfl sz_29 ?_)
         refine ADB.n ?_
         refine ADB.done (by kernel_rfl) ?_
         exact ⟨rfl, rfl⟩
       ·skip
        refine ⟨_, rfl, rfl, AOpB.op (ARd.opB (rd_load_bx rfl ag_3 rfl rfl rfl) ?_)⟩
        refine ADB.n ?_
        refine ADB.r 8 rfl (rdP_iaddr_bx_ 0 rfl ar_37 rfl rfl rfl) rfl ?_
        refine ADB.all (is := [2, 9, 11]) (by kernel_rfl) (by simp) ?_
        intro i hi
        simp only [List.mem_cons, List.not_mem_nil, or_false] at hi
        rcases hi with rfl | rfl | rfl
        ·skip
         refine ⟨_, rfl, rfl, AOpB.op (ARd.opB (rd_load_bx rfl ag_3 rfl rfl rfl) ?_)⟩
         refine ADB.n ?_
         refine ADB.all (is := [9, 11]) (by kernel_rfl) (by simp) ?_
         intro i hi
         simp only [List.mem_cons, List.not_mem_nil, or_false] at hi
         rcases hi with rfl | rfl
         ·skip
          refine ⟨_, rfl, rfl, AOpB.op (ARd.opB (rd_load_bx rfl ag_29 rfl rfl rfl) ?_)⟩
          refine ADB.n ?_
          refine ADB.mv 11 rfl (AOpB.op (ARd.opB (rd_load_bx rfl ag_29 rfl rfl rfl) ?_))
          refine ADB.n ?_
          refine ADB.r 13 rfl (rdP_slice_sl rfl el_29 rfl byA_one rfl ⟨_, _, rfl, (Int.toNat_of_nonneg (by omega)).symm⟩ (by omega) (by simp only [byA_len]; simp only [DeedD.count, h26, Bool.false_eq_true, if_false] at hcn; exact hcn)) rfl ?_
          refine ADB.mv 14 rfl (op_appendM rfl ap_29 rfl rfl (src_s rfl) (by rw [hF] at hbl; simp [byA_len]; omega) (by rw [hF] at hbl; simp [byA_len]; omega) ?_)
          refine ADB.n ?_
          refine ADB.r 17 rfl (rdP_iaddr_bx_ 0 rfl ar_37 rfl rfl rfl) rfl ?_
          refine ADB.mv 18 rfl (op_storo rfl rfl rfl rfl rfl sz_29 ?_)
          refine ADB.n ?_
          refine ADB.done (by kernel_rfl) ?_
          exact ⟨rfl, rfl⟩
         ·skip
          refine ⟨_, rfl, rfl, AOpB.op (ARd.opB (rd_load_bx rfl ag_29 rfl rfl rfl) ?_)⟩
          refine ADB.n ?_
          refine ADB.r 13 rfl (rdP_slice_sl rfl el_29 rfl byA_one rfl ⟨_, _, rfl, (Int.toNat_of_nonneg (by omega)).symm⟩ (by omega) (by simp only [byA_len]; simp only [DeedD.count, h26, Bool.false_eq_true, if_false] at hcn; exact hcn)) rfl ?_
          refine ADB.mv 9 rfl (AOpB.op (ARd.opB (rd_load_bx rfl ag_29 rfl rfl rfl) ?_))
          refine ADB.n ?_
          refine ADB.mv 14 rfl (op_appendM rfl ap_29 rfl rfl (src_s rfl) (by rw [hF] at hbl; simp [byA_len]; omega) (by rw [hF] at hbl; simp [byA_len]; omega) ?_)
          refine ADB.n ?_
          refine ADB.r 17 rfl (rdP_iaddr_bx_ 0 rfl ar_37 rfl rfl rfl) rfl ?_
          refine ADB.mv 18 rfl (op_storo rfl rfl rfl rfl rfl sz_29 ?_)
          refine ADB.n ?_
          refine ADB.done (by kernel_rfl) ?_
          exact ⟨rfl, rfl⟩
        ·skip
         refine ⟨_, rfl, rfl, AOpB.op (ARd.opB (rd_load_bx rfl ag_29 rfl rfl rfl) ?_)⟩
         refine ADB.n ?_
         refine ADB.all (is := [2, 11]) (by kernel_rfl) (by simp) ?_
         intro i hi
         simp only [List.mem_cons, List.not_mem_nil, or_false] at hi
         rcases hi with rfl | rfl
         ·skip
          refine ⟨_, rfl, rfl, AOpB.op (ARd.opB (rd_load_bx rfl ag_3 rfl rfl rfl) ?_)⟩
          refine ADB.n ?_
          refine ADB.mv 11 rfl (AOpB.op (ARd.opB (rd_load_bx rfl ag_29 rfl rfl rfl) ?_))
          refine ADB.n ?_
          refine ADB.r 13 rfl (rdP_slice_sl rfl el_29 rfl byA_one rfl ⟨_, _, rfl, (Int.toNat_of_nonneg (by omega)).symm⟩ (by omega) (by simp only [byA_len]; simp only [DeedD.count, h26, Bool.false_eq_true, if_false] at hcn; exact hcn)) rfl ?_
          refine ADB.mv 14 rfl (op_appendM rfl ap_29 rfl rfl (src_s rfl) (by rw [hF] at hbl; simp [byA_len]; omega) (by rw [hF] at hbl; simp [byA_len]; omega) ?_)
          refine ADB.n ?_
          refine ADB.r 17 rfl (rdP_iaddr_bx_ 0 rfl ar_37 rfl rfl rfl) rfl ?_
          refine ADB.mv 18 rfl (op_storo rfl rfl rfl rfl rfl sz_29 ?_)
          refine ADB.n ?_
          refine ADB.done (by kernel_rfl) ?_
          exact ⟨rfl, rfl⟩
         ·skip
          refine ⟨_, rfl, rfl, AOpB.op (ARd.opB (rd_load_bx rfl ag_29 rfl rfl rfl) ?_)⟩
          refine ADB.n ?_
          refine ADB.r 13 rfl (rdP_slice_sl rfl el_29 rfl byA_one rfl ⟨_, _, rfl, (Int.toNat_of_nonneg (by omega)).symm⟩ (by omega) (by simp only [byA_len]; simp only [DeedD.count, h26, Bool.false_eq_true, if_false] at hcn; exact hcn)) rfl ?_
          refine ADB.all (is := [2, 14]) (by kernel_rfl) (by simp) ?_
          intro i hi
          simp only [List.mem_cons, List.not_mem_nil, or_false] at hi
          rcases hi with rfl | rfl
          ·skip
           refine ⟨_, rfl, rfl, AOpB.op (ARd.opB (rd_load_bx rfl ag_3 rfl rfl rfl) ?_)⟩
           refine ADB.n ?_
           refine ADB.mv 14 rfl (op_appendM rfl ap_29 rfl rfl (src_s rfl) (by rw [hF] at hbl; simp [byA_len]; omega) (by rw [hF] at hbl; simp [byA_len]; omega) ?_)
           refine ADB.n ?_
           refine ADB.r 17 rfl (rdP_iaddr_bx_ 0 rfl ar_37 rfl rfl rfl) rfl ?_
           refine ADB.mv 18 rfl (op_storo rfl rfl rfl rfl rfl sz_29 ?_)
           refine ADB.n ?_
           refine ADB.done (by kernel_rfl) ?_
           exact ⟨rfl, rfl⟩
          ·skip
           refine ⟨_, rfl, rfl, op_appendM rfl ap_29 rfl rfl (src_s rfl) (by rw [hF] at hbl; simp [byA_len]; omega) (by rw [hF] at hbl; simp [byA_len]; omega) ?_⟩
           refine ADB.n ?_
           refine ADB.mv 2 rfl (AOpB.op (ARd.opB (rd_load_bx rfl ag_3 rfl rfl rfl) ?_))
           refine ADB.n ?_
           refine ADB.r 17 rfl (rdP_iaddr_bx_ 0 rfl ar_37 rfl rfl rfl) rfl ?_
           refine ADB.mv 18 rfl (op_storo rfl rfl rfl rfl rfl sz_29 ?_)
           refine ADB.n ?_
           refine ADB.done (by kernel_rfl) ?_
           exact ⟨rfl, rfl⟩
        ·skip
         refine ⟨_, rfl, rfl, AOpB.op (ARd.opB (rd_load_bx rfl ag_29 rfl rfl rfl) ?_)⟩
         refine ADB.n ?_
         refine ADB.r 13 rfl (rdP_slice_sl rfl el_29 rfl byA_one rfl ⟨_, _, rfl, (Int.toNat_of_nonneg (by omega)).symm⟩ (by omega) (by simp only [byA_len]; simp only [DeedD.count, h26, Bool.false_eq_true, if_false] at hcn; exact hcn)) rfl ?_
         refine ADB.all (is := [2, 9]) (by kernel_rfl) (by simp) ?_
         intro i hi
         simp only [List.mem_cons, List.not_mem_nil, or_false] at hi
         rcases hi with rfl | rfl
         ·skip
          refine ⟨_, rfl, rfl, AOpB.op (ARd.opB (rd_load_bx rfl ag_3 rfl rfl rfl) ?_)⟩
          refine ADB.n ?_
          refine ADB.mv 9 rfl (AOpB.op (ARd.opB (rd_load_bx rfl ag_29 rfl rfl rfl) ?_))
          refine ADB.n ?_
          refine ADB.mv 14 rfl (op_appendM rfl ap_29 rfl rfl (src_s rfl) (by rw [hF] at hbl; simp [byA_len]; omega) (by rw [hF] at hbl; simp [byA_len]; omega) ?_)
          refine ADB.n ?_
          refine ADB.r 17 rfl (rdP_iaddr_bx_ 0 rfl ar_37 rfl rfl rfl) rfl ?_
          refine ADB.mv 18 rfl (op_storo rfl rfl rfl rfl rfl sz_29 ?_)
          refine ADB.n ?_
          refine ADB.done (by kernel_rfl) ?_
          exact ⟨rfl, rfl⟩
         ·skip
          refine ⟨_, rfl, rfl, AOpB.op (ARd.opB (rd_load_bx rfl ag_29 rfl rfl rfl) ?_)⟩
          refine ADB.n ?_
          refine ADB.all (is := [2, 14]) (by kernel_rfl) (by simp) ?_
          intro i hi
          simp only [List.mem_cons, List.not_mem_nil, or_false] at hi
          rcases hi with rfl | rfl
          ·skip
           refine ⟨_, rfl, rfl, AOpB.op (ARd.opB (rd_load_bx rfl ag_3 rfl rfl rfl) ?_)⟩
           refine ADB.n ?_
           refine ADB.mv 14 rfl (op_appendM rfl ap_29 rfl rfl (src_s rfl) (by rw [hF] at hbl; simp [byA_len]; omega) (by rw [hF] at hbl; simp [byA_len]; omega) ?_)
           refine ADB.n ?_
           refine ADB.r 17 rfl (rdP_iaddr_bx_ 0 rfl ar_37 rfl rfl rfl) rfl ?_
           refine ADB.mv 18 rfl (op_storo rfl rfl rfl rfl rfl sz_29 ?_)
           refine ADB.n ?_
           refine ADB.done (by kernel_rfl) ?_
           exact ⟨rfl, rfl⟩
          ·skip
           refine ⟨_, rfl, rfl, op_appendM rfl ap_29 rfl rfl (src_s rfl) (by rw [hF] at hbl; simp [byA_len]; omega) (by rw [hF] at hbl; simp [byA_len]; omega) ?_⟩
           refine ADB.n ?_
           refine ADB.mv 2 rfl (AOpB.op (ARd.opB (rd_load_bx rfl ag_3 rfl rfl rfl) ?_))
           refine ADB.n ?_
           refine ADB.r 17 rfl (rdP_iaddr_bx_ 0 rfl ar_37 rfl rfl rfl) rfl ?_
           refine ADB.mv 18 rfl (op_storo rfl rfl rfl rfl rfl sz_29 ?_)
           refine ADB.n ?_
           refine ADB.done (by kernel_rfl) ?_
           exact ⟨rfl, rfl⟩
       ·skip
        refine ⟨_, rfl, rfl, AOpB.op (ARd.opB (rd_load_bx rfl ag_29 rfl rfl rfl) ?_)⟩
        refine ADB.n ?_
        refine ADB.r 13 rfl (rdP_slice_sl rfl el_29 rfl byA_one rfl ⟨_, _, rfl, (Int.toNat_of_nonneg (by omega)).symm⟩ (by omega) (by simp only [byA_len]; simp only [DeedD.count, h26, Bool.false_eq_true, if_false] at hcn; exact hcn)) rfl ?_
        refine ADB.all (is := [2, 5]) (by kernel_rfl) (by simp) ?_
        intro i hi
        simp only [List.mem_cons, List.not_mem_nil, or_false] at hi
        rcases hi with rfl | rfl
        ·skip
         refine ⟨_, rfl, rfl, AOpB.op (ARd.opB (rd_load_bx rfl ag_3 rfl rfl rfl) ?_)⟩
         refine ADB.n ?_
         refine ADB.mv 5 rfl (AOpB.op (ARd.opB (rd_load_bx rfl ag_3 rfl rfl rfl) ?_))
         refine ADB.n ?_
         refine ADB.r 8 rfl (rdP_iaddr_bx_ 0 rfl ar_37 rfl rfl rfl) rfl ?_
         refine ADB.mv 9 rfl (AOpB.op (ARd.opB (rd_load_bx rfl ag_29 rfl rfl rfl) ?_))
         refine ADB.n ?_
         refine ADB.mv 14 rfl (op_appendM rfl ap_29 rfl rfl (src_s rfl) (by rw [hF] at hbl; simp [byA_len]; omega) (by rw [hF] at hbl; simp [byA_len]; omega) ?_)
         refine ADB.n ?_
         refine ADB.r 17 rfl (rdP_iaddr_bx_ 0 rfl ar_37 rfl rfl rfl) rfl ?_
         refine ADB.mv 18 rfl (op_storo rfl rfl rfl rfl rfl sz_29 ?_)
         refine ADB.n ?_
         refine ADB.done (by kernel_rfl) ?_
         exact ⟨rfl, rfl⟩
        ·skip
         refine ⟨_, rfl, rfl, AOpB.op (ARd.opB (rd_load_bx rfl ag_3 rfl rfl rfl) ?_)⟩
         refine ADB.n ?_
         refine ADB.r 8 rfl (rdP_iaddr_bx_ 0 rfl ar_37 rfl rfl rfl) rfl ?_
         refine ADB.all (is := [2, 9]) (by kernel_rfl) (by simp) ?_
         intro i hi
         simp only [List.mem_cons, List.not_mem_nil, or_false] at hi
         rcases hi with rfl | rfl
         ·skip
          refine ⟨_, rfl, rfl, AOpB.op (ARd.opB (rd_load_bx rfl ag_3 rfl rfl rfl) ?_)⟩
          refine ADB.n ?_
          refine ADB.mv 9 rfl (AOpB.op (ARd.opB (rd_load_bx rfl ag_29 rfl rfl rfl) ?_))
          refine ADB.n ?_
          refine ADB.mv 14 rfl (op_appendM rfl ap_29 rfl rfl (src_s rfl) (by rw [hF] at hbl; simp [byA_len]; omega) (by rw [hF] at hbl; simp [byA_len]; omega) ?_)
          refine ADB.n ?_
          refine ADB.r 17 rfl (rdP_iaddr_bx_ 0 rfl ar_37 rfl rfl rfl) rfl ?_
          refine ADB.mv 18 rfl (op_storo rfl rfl rfl rfl rfl sz_29 ?_)
          refine ADB.n ?_
          refine ADB.done (by kernel_rfl) ?_
          exact ⟨rfl, rfl⟩
         ·skip
          refine ⟨_, rfl, rfl, AOpB.op (ARd.opB (rd_load_bx rfl ag_29 rfl rfl rfl) ?_)⟩
          refine ADB.n ?_
          refine ADB.all (is := [2, 14]) (by kernel_rfl) (by simp) ?_
          intro i hi
          simp only [List.mem_cons, List.not_mem_nil, or_false] at hi
          rcases hi with rfl | rfl
          ·skip
           refine ⟨_, rfl, rfl, AOpB.op (ARd.opB (rd_load_bx rfl ag_3 rfl rfl rfl) ?_)⟩
           refine ADB.n ?_
           refine ADB.mv 14 rfl (op_appendM rfl ap_29 rfl rfl (src_s rfl) (by rw [hF] at hbl; simp [byA_len]; omega) (by rw [hF] at hbl; simp [byA_len]; omega) ?_)
           refine ADB.n ?_
           refine ADB.r 17 rfl (rdP_iaddr_bx_ 0 rfl ar_37 rfl rfl rfl) rfl ?_
           refine ADB.mv 18 rfl (op_storo rfl rfl rfl rfl rfl sz_29 ?_)
           refine ADB.n ?_
           refine ADB.done (by kernel_rfl) ?_
           exact ⟨rfl, rfl⟩
          ·skip
           refine ⟨_, rfl, rfl, op_appendM rfl ap_29 rfl rfl (src_s rfl) (by rw [hF] at hbl; simp [byA_len]; omega) (by rw [hF] at hbl; simp [byA_len]; omega) ?_⟩
           refine ADB.n ?_
           refine ADB.mv 2 rfl (AOpB.op (ARd.opB (rd_load_bx rfl ag_3 rfl rfl rfl) ?_))
           refine ADB.n ?_
           refine ADB.r 17 rfl (rdP_iaddr_bx_ 0 rfl ar_37 rfl rfl rfl) rfl ?_
           refine ADB.mv 18 rfl (op_storo rfl rfl rfl rfl rfl sz_29 ?_)
           refine ADB.n ?_
           refine ADB.done (by kernel_rfl) ?_
           exact ⟨rfl, rfl⟩
      skip
      change AW _ _ _ _ _
      refine AW.region ?_
      refine AL.r (rd_arith_add rfl rfl rfl (by first | exact IntWalk.i64_in _ (by omega) | rfl)) ?_
      refine AL.rm ?_
      refine AL.nil ?_
      refine ⟨⟨j + 1, kp - cntN d.q[j] kp, stepL d.q[j] (cntN d.q[j] kp).toNat s, a5 + 1, a6, a7, a8⟩, ?_, by first | omega | (simp only []; omega), ?_, ?_⟩
      ·exact hJ.next hjl h0
      ·simp only [anys, upds, offs, List.set_cons_zero, List.set_cons_succ]; repeat (first | exact Wk.nil | refine Wk.same ?_ | refine Wk.any ?_)
      ·simp only [anys, upds, offs, List.set_cons_zero, List.set_cons_succ]; repeat (first | exact Sk.nil _ | refine Sk.same _ ?_ | refine Sk.scr _ (by decide) ?_ | refine Sk.eq _ (by simp [stepL, upd, hF, h26]) ?_)
     ·skip
      apply AW.drawS (by kernel_rfl)
      ·skip
       refine ADA.r 0 rfl (ARdP.a (rdP_move rfl rfl)) rfl ?_
       refine ADA.r 1 rfl (ARdP.a (rdP_faddr_bx rfl fo_102_0 rfl rfl ⟨_, _, rfl⟩)) rfl ?_
       refine ADA.r 3 rfl (ARdP.a (rdP_move rfl rfl)) rfl ?_
       refine ADA.r 4 rfl (ARdP.a (rdP_faddr_bx rfl fo_102_0 rfl rfl ⟨_, _, rfl⟩)) rfl ?_
       refine ADA.r 6 rfl (ARdP.a (rdP_nilc_bx rfl rfl rfl)) rfl ?_
       refine ADA.r 7 rfl (ARdP.a (rdP_faddr_bx rfl fo_99_2 rfl rfl ⟨_, _, rfl⟩)) rfl ?_
       refine ADA.r 10 rfl (ARdP.a (rdP_faddr_bx rfl fo_102_3 rfl rfl ⟨_, _, rfl⟩)) rfl ?_
       refine ADA.r 12 rfl (ARdP.a (rdP_move rfl rfl)) rfl ?_
       refine ADA.r 15 rfl (ARdP.a (rdP_nilc_bx rfl rfl rfl)) rfl ?_
       refine ADA.r 16 rfl (ARdP.a (rdP_faddr_bx rfl fo_99_2 rfl rfl ⟨_, _, rfl⟩)) rfl ?_
       refine ADA.b ?_
       refine ADB.all (is := [2, 5, 11]) (by kernel_rfl) (by simp) ?_
       intro i hi
       simp only [List.mem_cons, List.not_mem_nil, or_false] at hi
       rcases hi with rfl | rfl | rfl
       ·skip
        refine ⟨_, rfl, rfl, AOpB.op (ARd.opB (rd_load_bx rfl ag_3 rfl rfl rfl) ?_)⟩
        refine ADB.n ?_
        refine ADB.all (is := [5, 11]) (by kernel_rfl) (by simp) ?_
        intro i hi
        simp only [List.mem_cons, List.not_mem_nil, or_false] at hi
        rcases hi with rfl | rfl
        ·skip
         refine ⟨_, rfl, rfl, AOpB.op (ARd.opB (rd_load_bx rfl ag_3 rfl rfl rfl) ?_)⟩
         refine ADB.n ?_
         refine ADB.r 8 rfl (rdP_iaddr_bx_ 1 rfl ar_37 rfl rfl rfl) rfl ?_
         refine ADB.all (is := [9, 11]) (by kernel_rfl) (by simp) ?_
         intro i hi
         simp only [List.mem_cons, List.not_mem_nil, or_false] at hi
         rcases hi with rfl | rfl
         ·skip
          refine ⟨_, rfl, rfl, AOpB.op (ARd.opB (rd_load_bx rfl ag_29 rfl rfl rfl) ?_)⟩
          refine ADB.n ?_
          refine ADB.mv 11 rfl (AOpB.op (ARd.opB (rd_load_bx rfl ag_29 rfl rfl rfl) ?_))
          refine ADB.n ?_
          refine ADB.r 13 rfl (rdP_slice_sl rfl el_29 rfl byA_one rfl ⟨_, _, rfl, (Int.toNat_of_nonneg (by omega)).symm⟩ (by omega) (by simp only [byA_len]; simp only [DeedD.count, h26, Bool.false_eq_true, if_false] at hcn; exact hcn)) rfl ?_
          refine ADB.mv 14 rfl (op_appendM rfl ap_29 rfl rfl (src_s rfl) (by rw [hF] at hbl; simp [byA_len]; omega) (by rw [hF] at hbl; simp [byA_len]; omega) ?_)
          refine ADB.n ?_
          refine ADB.r 17 rfl (rdP_iaddr_bx_ 1 rfl ar_37 rfl rfl rfl) rfl ?_
          refine ADB.mv 18 rfl (op_storo rfl rfl rfl rfl rfl sz_29 ?_)
          refine ADB.n ?_
          refine ADB.done (by kernel_rfl) ?_
          exact ⟨rfl, rfl⟩
         ·skip
          refine ⟨_, rfl, rfl, AOpB.op (ARd.opB (rd_load_bx rfl ag_29 rfl rfl rfl) ?_)⟩
          refine ADB.n ?_
          refine ADB.r 13 rfl (rdP_slice_sl rfl el_29 rfl byA_one rfl ⟨_, _, rfl, (Int.toNat_of_nonneg (by omega)).symm⟩ (by omega) (by simp only [byA_len]; simp only [DeedD.count, h26, Bool.false_eq_true, if_false] at hcn; exact hcn)) rfl ?_
          refine ADB.mv 9 rfl (AOpB.op (ARd.opB (rd_load_bx rfl ag_29 rfl rfl rfl) ?_))
          refine ADB.n ?_
          refine ADB.mv 14 rfl (op_appendM rfl ap_29 rfl rfl (src_s rfl) (by rw [hF] at hbl; simp [byA_len]; omega) (by rw [hF] at hbl; simp [byA_len]; omega) ?_)
          refine ADB.n ?_
          refine ADB.r 17 rfl (rdP_iaddr_bx_ 1 rfl ar_37 rfl rfl rfl) rfl ?_
          refine ADB.mv 18 rfl (op_storo rfl rfl rfl rfl rfl sz_29 ?_)
          refine ADB.n ?_
          refine ADB.done (by kernel_rfl) ?_
          exact ⟨rfl, rfl⟩
        ·skip
         refine ⟨_, rfl, rfl, AOpB.op (ARd.opB (rd_load_bx rfl ag_29 rfl rfl rfl) ?_)⟩
         refine ADB.n ?_
         refine ADB.r 13 rfl (rdP_slice_sl rfl el_29 rfl byA_one rfl ⟨_, _, rfl, (Int.toNat_of_nonneg (by omega)).symm⟩ (by omega) (by simp only [byA_len]; simp only [DeedD.count, h26, Bool.false_eq_true, if_false] at hcn; exact hcn)) rfl ?_
         refine ADB.mv 5 rfl (AOpB.op (ARd.opB (rd_load_bx rfl ag_3 rfl rfl rfl) ?_))
         refine ADB.n ?_
         refine ADB.r 8 rfl (rdP_iaddr_bx_ 1 rfl ar_37 rfl rfl rfl) rfl ?_
         refine ADB.mv 9 rfl (AOpB.op (ARd.opB (rd_load_bx rfl ag_29 rfl rfl rfl) ?_))
         refine ADB.n ?_
         refine ADB.mv 14 rfl (op_appendM rfl ap_29 rfl rfl (src_s rfl) (by rw [hF] at hbl; simp [byA_len]; omega) (by rw [hF] at hbl; simp [byA_len]; omega) ?_)
         refine ADB.n ?_
         refine ADB.r 17 rfl (rdP_iaddr_bx_ 1 rfl ar_37 rfl rfl rfl) rfl ?_
         refine ADB.mv 18 rfl (op_storo rfl rfl rfl rfl rfl sz_29 ?_)
         refine ADB.n ?_
         refine ADB.done (by kernel_rfl) ?_
         exact ⟨rfl, rfl⟩
       ·skip
        refine ⟨_, rfl, rfl, AOpB.op (ARd.opB (rd_load_bx rfl ag_3 rfl rfl rfl) ?_)⟩
        refine ADB.n ?_
        refine ADB.r 8 rfl (rdP_iaddr_bx_ 1 rfl ar_37 rfl rfl rfl) rfl ?_
        refine ADB.all (is := [2, 9, 11]) (by kernel_rfl) (by simp) ?_
        intro i hi
        simp only [List.mem_cons, List.not_mem_nil, or_false] at hi
        rcases hi with rfl | rfl | rfl
        ·skip
         refine ⟨_, rfl, rfl, AOpB.op (ARd.opB (rd_load_bx rfl ag_3 rfl rfl rfl) ?_)⟩
         refine ADB.n ?_
         refine ADB.all (is := [9, 11]) (by kernel_rfl) (by simp) ?_
         intro i hi
         simp only [List.mem_cons, List.not_mem_nil, or_false] at hi
         rcases hi with rfl | rfl
         ·skip
          refine ⟨_, rfl, rfl, AOpB.op (ARd.opB (rd_load_bx rfl ag_29 rfl rfl rfl) ?_)⟩
          refine ADB.n ?_
          refine ADB.mv 11 rfl (AOpB.op (ARd.opB (rd_load_bx rfl ag_29 rfl rfl rfl) ?_))
          refine ADB.n ?_
          refine ADB.r 13 rfl (rdP_slice_sl rfl el_29 rfl byA_one rfl ⟨_, _, rfl, (Int.toNat_of_nonneg (by omega)).symm⟩ (by omega) (by simp only [byA_len]; simp only [DeedD.count, h26, Bool.false_eq_true, if_false] at hcn; exact hcn)) rfl ?_
          refine ADB.mv 14 rfl (op_appendM rfl ap_29 rfl rfl (src_s rfl) (by rw [hF] at hbl; simp [byA_len]; omega) (by rw [hF] at hbl; simp [byA_len]; omega) ?_)
          refine ADB.n ?_
          refine ADB.r 17 rfl (rdP_iaddr_bx_ 1 rfl ar_37 rfl rfl rfl) rfl ?_
          refine ADB.mv 18 rfl (op_storo rfl rfl rfl rfl rfl sz_29 ?_)
          refine ADB.n ?_
          refine ADB.done (by kernel_rfl) ?_
          exact ⟨rfl, rfl⟩
         ·skip
          refine ⟨_, rfl, rfl, AOpB.op (ARd.opB (rd_load_bx rfl ag_29 rfl rfl rfl) ?_)⟩
          refine ADB.n ?_
          refine ADB.r 13 rfl (rdP_slice_sl rfl el_29 rfl byA_one rfl ⟨_, _, rfl, (Int.toNat_of_nonneg (by omega)).symm⟩ (by omega) (by simp only [byA_len]; simp only [DeedD.count, h26, Bool.false_eq_true, if_false] at hcn; exact hcn)) rfl ?_
          refine ADB.mv 9 rfl (AOpB.op (ARd.opB (rd_load_bx rfl ag_29 rfl rfl rfl) ?_))
          refine ADB.n ?_
          refine ADB.mv 14 rfl (op_appendM rfl ap_29 rfl rfl (src_s rfl) (by rw [hF] at hbl; simp [byA_len]; omega) (by rw [hF] at hbl; simp [byA_len]; omega) ?_)
          refine ADB.n ?_
          refine ADB.r 17 rfl (rdP_iaddr_bx_ 1 rfl ar_37 rfl rfl rfl) rfl ?_
          refine ADB.mv 18 rfl (op_storo rfl rfl rfl rfl rfl sz_29 ?_)
          refine ADB.n ?_
          refine ADB.done (by kernel_rfl) ?_
          exact ⟨rfl, rfl⟩
        ·skip
         refine ⟨_, rfl, rfl, AOpB.op (ARd.opB (rd_load_bx rfl ag_29 rfl rfl rfl) ?_)⟩
         refine ADB.n ?_
         refine ADB.all (is := [2, 11]) (by kernel_rfl) (by simp) ?_
         intro i hi
         simp only [List.mem_cons, List.not_mem_nil, or_false] at hi
         rcases hi with rfl | rfl
         ·skip
          refine ⟨_, rfl, rfl, AOpB.op (ARd.opB (rd_load_bx rfl ag_3 rfl rfl rfl) ?_)⟩
          refine ADB.n ?_
          refine ADB.mv 11 rfl (AOpB.op (ARd.opB (rd_load_bx rfl ag_29 rfl rfl rfl) ?_))
          refine ADB.n ?_
          refine ADB.r 13 rfl (rdP_slice_sl rfl el_29 rfl byA_one rfl ⟨_, _, rfl, (Int.toNat_of_nonneg (by omega)).symm⟩ (by omega) (by simp only [byA_len]; simp only [DeedD.count, h26, Bool.false_eq_true, if_false] at hcn; exact hcn)) rfl ?_
          refine ADB.mv 14 rfl (op_appendM rfl ap_29 rfl rfl (src_s rfl) (by rw [hF] at hbl; simp [byA_len]; omega) (by rw [hF] at hbl; simp [byA_len]; omega) ?_)
          refine ADB.n ?_
          refine ADB.r 17 rfl (rdP_iaddr_bx_ 1 rfl ar_37 rfl rfl rfl) rfl ?_
          refine ADB.mv 18 rfl (op_storo rfl rfl rfl rfl rfl sz_29 ?_)
          refine ADB.n ?_
          refine ADB.done (by kernel_rfl) ?_
          exact ⟨rfl, rfl⟩
         ·skip
          refine ⟨_, rfl, rfl, AOpB.op (ARd.opB (rd_load_bx rfl ag_29 rfl rfl rfl) ?_)⟩
          refine ADB.n ?_
          refine ADB.r 13 rfl (rdP_slice_sl rfl el_29 rfl byA_one rfl ⟨_, _, rfl, (Int.toNat_of_nonneg (by omega)).symm⟩ (by omega) (by simp only [byA_len]; simp only [DeedD.count, h26, Bool.false_eq_true, if_false] at hcn; exact hcn)) rfl ?_
          refine ADB.all (is := [2, 14]) (by kernel_rfl) (by simp) ?_
          intro i hi
          simp only [List.mem_cons, List.not_mem_nil, or_false] at hi
          rcases hi with rfl | rfl
          ·skip
           refine ⟨_, rfl, rfl, AOpB.op (ARd.opB (rd_load_bx rfl ag_3 rfl rfl rfl) ?_)⟩
           refine ADB.n ?_
           refine ADB.mv 14 rfl (op_appendM rfl ap_29 rfl rfl (src_s rfl) (by rw [hF] at hbl; simp [byA_len]; omega) (by rw [hF] at hbl; simp [byA_len]; omega) ?_)
           refine ADB.n ?_
           refine ADB.r 17 rfl (rdP_iaddr_bx_ 1 rfl ar_37 rfl rfl rfl) rfl ?_
           refine ADB.mv 18 rfl (op_storo rfl rfl rfl rfl rfl sz_29 ?_)
           refine ADB.n ?_
           refine ADB.done (by kernel_rfl) ?_
           exact ⟨rfl, rfl⟩
          ·skip
           refine ⟨_, rfl, rfl, op_appendM rfl ap_29 rfl rfl (src_s rfl) (by rw [hF] at hbl; simp [byA_len]; omega) (by rw [hF] at hbl; simp [byA_len]; omega) ?_⟩
           refine ADB.n ?_
           refine ADB.mv 2 rfl (AOpB.op (ARd.opB (rd_load_bx rfl ag_3 rfl rfl rfl) ?_))
           refine ADB.n ?_
           refine ADB.r 17 rfl (rdP_iaddr_bx_ 1 rfl ar_37 rfl rfl rfl) rfl ?_
           refine ADB.mv 18 rfl (op_storo rfl rfl rfl rfl rfl sz_29 ?_)
           refine ADB.n ?_
           refine ADB.done (by kernel_rfl) ?_
           exact ⟨rfl, rfl⟩
        ·skip
         refine ⟨_, rfl, rfl, AOpB.op (ARd.opB (rd_load_bx rfl ag_29 rfl rfl rfl) ?_)⟩
         refine ADB.n ?_
         refine ADB.r 13 rfl (rdP_slice_sl rfl el_29 rfl byA_one rfl ⟨_, _, rfl, (Int.toNat_of_nonneg (by omega)).symm⟩ (by omega) (by simp only [byA_len]; simp only [DeedD.count, h26, Bool.false_eq_true, if_false] at hcn; exact hcn)) rfl ?_
         refine ADB.all (is := [2, 9]) (by kernel_rfl) (by simp) ?_
         intro i hi
         simp only [List.mem_cons, List.not_mem_nil, or_false] at hi
         rcases hi with rfl | rfl
         ·skip
          refine ⟨_, rfl, rfl, AOpB.op (ARd.opB (rd_load_bx rfl ag_3 rfl rfl rfl) ?_)⟩
          refine ADB.n ?_
          refine ADB.mv 9 rfl (AOpB.op (ARd.opB (rd_load_bx rfl ag_29 rfl rfl rfl) ?_))
          refine ADB.n ?_
          refine ADB.mv 14 rfl (op_appendM rfl ap_29 rfl rfl (src_s rfl) (by rw [hF] at hbl; simp [byA_len]; omega) (by rw [hF] at hbl; simp [byA_len]; omega) ?_)
          refine ADB.n ?_
          refine ADB.r 17 rfl (rdP_iaddr_bx_ 1 rfl ar_37 rfl rfl rfl) rfl ?_
          refine ADB.mv 18 rfl (op_storo rfl rfl rfl rfl rfl sz_29 ?_)
          refine ADB.n ?_
          refine ADB.done (by kernel_rfl) ?_
          exact ⟨rfl, rfl⟩
         ·skip
          refine ⟨_, rfl, rfl, AOpB.op (ARd.opB (rd_load_bx rfl ag_29 rfl rfl rfl) ?_)⟩
          refine ADB.n ?_
          refine ADB.all (is := [2, 14]) (by kernel_rfl) (by simp) ?_
          intro i hi
          simp only [List.mem_cons, List.not_mem_nil, or_false] at hi
          rcases hi with rfl | rfl
          ·skip
           refine ⟨_, rfl, rfl, AOpB.op (ARd.opB (rd_load_bx rfl ag_3 rfl rfl rfl) ?_)⟩
           refine ADB.n ?_
           refine ADB.mv 14 rfl (op_appendM rfl ap_29 rfl rfl (src_s rfl) (by rw [hF] at hbl; simp [byA_len]; omega) (by rw [hF] at hbl; simp [byA_len]; omega) ?_)
           refine ADB.n ?_
           refine ADB.r 17 rfl (rdP_iaddr_bx_ 1 rfl ar_37 rfl rfl rfl) rfl ?_
           refine ADB.mv 18 rfl (op_storo rfl rfl rfl rfl rfl sz_29 ?_)
           refine ADB.n ?_
           refine ADB.done (by kernel_rfl) ?_
           exact ⟨rfl, rfl⟩
          ·skip
           refine ⟨_, rfl, rfl, op_appendM rfl ap_29 rfl rfl (src_s rfl) (by rw [hF] at hbl; simp [byA_len]; omega) (by rw [hF] at hbl; simp [byA_len]; omega) ?_⟩
           refine ADB.n ?_
           refine ADB.mv 2 rfl (AOpB.op (ARd.opB (rd_load_bx rfl ag_3 rfl rfl rfl) ?_))
           refine ADB.n ?_
           refine ADB.r 17 rfl (rdP_iaddr_bx_ 1 rfl ar_37 rfl rfl rfl) rfl ?_
           refine ADB.mv 18 rfl (op_storo rfl rfl rfl rfl rfl sz_29 ?_)
           refine ADB.n ?_
           refine ADB.done (by kernel_rfl) ?_
           exact ⟨rfl, rfl⟩
       ·skip
        refine ⟨_, rfl, rfl, AOpB.op (ARd.opB (rd_load_bx rfl ag_29 rfl rfl rfl) ?_)⟩
        refine ADB.n ?_
        refine ADB.r 13 rfl (rdP_slice_sl rfl el_29 rfl byA_one rfl ⟨_, _, rfl, (Int.toNat_of_nonneg (by omega)).symm⟩ (by omega) (by simp only [byA_len]; simp only [DeedD.count, h26, Bool.false_eq_true, if_false] at hcn; exact hcn)) rfl ?_
        refine ADB.all (is := [2, 5]) (by kernel_rfl) (by simp) ?_
        intro i hi
        simp only [List.mem_cons, List.not_mem_nil, or_false] at hi
        rcases hi with rfl | rfl
        ·skip
         refine ⟨_, rfl, rfl, AOpB.op (ARd.opB (rd_load_bx rfl ag_3 rfl rfl rfl) ?_)⟩
         refine ADB.n ?_
         refine ADB.mv 5 rfl (AOpB.op (ARd.opB (rd_load_bx rfl ag_3 rfl rfl rfl) ?_))
         refine ADB.n ?_
         refine ADB.r 8 rfl (rdP_iaddr_bx_ 1 rfl ar_37 rfl rfl rfl) rfl ?_
         refine ADB.mv 9 rfl (AOpB.op (ARd.opB (rd_load_bx rfl ag_29 rfl rfl rfl) ?_))
         refine ADB.n ?_
         refine ADB.mv 14 rfl (op_appendM rfl ap_29 rfl rfl (src_s rfl) (by rw [hF] at hbl; simp [byA_len]; omega) (by rw [hF] at hbl; simp [byA_len]; omega) ?_)
         refine ADB.n ?_
         refine ADB.r 17 rfl (rdP_iaddr_bx_ 1 rfl ar_37 rfl rfl rfl) rfl ?_
         refine ADB.mv 18 rfl (op_storo rfl rfl rfl rfl rfl sz_29 ?_)
         refine ADB.n ?_
         refine ADB.done (by kernel_rfl) ?_
         exact ⟨rfl, rfl⟩
        ·skip
         refine ⟨_, rfl, rfl, AOpB.op (ARd.opB (rd_load_bx rfl ag_3 rfl rfl rfl) ?_)⟩
         refine ADB.n ?_
         refine ADB.r 8 rfl (rdP_iaddr_bx_ 1 rfl ar_37 rfl rfl rfl) rfl ?_
         refine ADB.all (is := [2, 9]) (by kernel_rfl) (by simp) ?_
         intro i hi
         simp only [List.mem_cons, List.not_mem_nil, or_false] at hi
         rcases hi with rfl | rfl
         ·skip
          refine ⟨_, rfl, rfl, AOpB.op (ARd.opB (rd_load_bx rfl ag_3 rfl rfl rfl) ?_)⟩
          refine ADB.n ?_
          refine ADB.mv 9 rfl (AOpB.op (ARd.opB (rd_load_bx rfl ag_29 rfl rfl rfl) ?_))
          refine ADB.n ?_
          refine ADB.mv 14 rfl (op_appendM rfl ap_29 rfl rfl (src_s rfl) (by rw [hF] at hbl; simp [byA_len]; omega) (by rw [hF] at hbl; simp [byA_len]; omega) ?_)
          refine ADB.n ?_
          refine ADB.r 17 rfl (rdP_iaddr_bx_ 1 rfl ar_37 rfl rfl rfl) rfl ?_
          refine ADB.mv 18 rfl (op_storo rfl rfl rfl rfl rfl sz_29 ?_)
          refine ADB.n ?_
          refine ADB.done (by kernel_rfl) ?_
          exact ⟨rfl, rfl⟩
         ·skip
          refine ⟨_, rfl, rfl, AOpB.op (ARd.opB (rd_load_bx rfl ag_29 rfl rfl rfl) ?_)⟩
          refine ADB.n ?_
          refine ADB.all (is := [2, 14]) (by kernel_rfl) (by simp) ?_
          intro i hi
          simp only [List.mem_cons, List.not_mem_nil, or_false] at hi
          rcases hi with rfl | rfl
          ·skip
           refine ⟨_, rfl, rfl, AOpB.op (ARd.opB (rd_load_bx rfl ag_3 rfl rfl rfl) ?_)⟩
           refine ADB.n ?_
           refine ADB.mv 14 rfl (op_appendM rfl ap_29 rfl rfl (src_s rfl) (by rw [hF] at hbl; simp [byA_len]; omega) (by rw [hF] at hbl; simp [byA_len]; omega) ?_)
           refine ADB.n ?_
           refine ADB.r 17 rfl (rdP_iaddr_bx_ 1 rfl ar_37 rfl rfl rfl) rfl ?_
           refine ADB.mv 18 rfl (op_storo rfl rfl rfl rfl rfl sz_29 ?_)
           refine ADB.n ?_
           refine ADB.done (by kernel_rfl) ?_
           exact ⟨rfl, rfl⟩
          ·skip
           refine ⟨_, rfl, rfl, op_appendM rfl ap_29 rfl rfl (src_s rfl) (by rw [hF] at hbl; simp [byA_len]; omega) (by rw [hF] at hbl; simp [byA_len]; omega) ?_⟩
           refine ADB.n ?_
           refine ADB.mv 2 rfl (AOpB.op (ARd.opB (rd_load_bx rfl ag_3 rfl rfl rfl) ?_))
           refine ADB.n ?_
           refine ADB.r 17 rfl (rdP_iaddr_bx_ 1 rfl ar_37 rfl rfl rfl) rfl ?_
           refine ADB.mv 18 rfl (op_storo rfl rfl rfl rfl rfl sz_29 ?_)
           refine ADB.n ?_
           refine ADB.done (by kernel_rfl) ?_
           exact ⟨rfl, rfl⟩
      skip
      change AW _ _ _ _ _
      refine AW.region ?_
      refine AL.r (rd_arith_add rfl rfl rfl (by first | exact IntWalk.i64_in _ (by omega) | rfl)) ?_
      refine AL.rm ?_
      refine AL.nil ?_
      refine ⟨⟨j + 1, kp - cntN d.q[j] kp, stepL d.q[j] (cntN d.q[j] kp).toNat s, a5, a6 + 1, a7, a8⟩, ?_, by first | omega | (simp only []; omega), ?_, ?_⟩
      ·exact hJ.next hjl h0
      ·simp only [anys, upds, offs, List.set_cons_zero, List.set_cons_succ]; repeat (first | exact Wk.nil | refine Wk.same ?_ | refine Wk.any ?_)
      ·simp only [anys, upds, offs, List.set_cons_zero, List.set_cons_succ]; repeat (first | exact Sk.nil _ | refine Sk.same _ ?_ | refine Sk.scr _ (by decide) ?_ | refine Sk.eq _ (by simp [stepL, upd, hF, h26]) ?_)
     ·skip
      apply AW.drawS (by kernel_rfl)
      ·skip
       refine ADA.r 0 rfl (ARdP.a (rdP_move rfl rfl)) rfl ?_
       refine ADA.r 1 rfl (ARdP.a (rdP_faddr_bx rfl fo_102_0 rfl rfl ⟨_, _, rfl⟩)) rfl ?_
       refine ADA.r 3 rfl (ARdP.a (rdP_move rfl rfl)) rfl ?_
       refine ADA.r 4 rfl (ARdP.a (rdP_faddr_bx rfl fo_102_0 rfl rfl ⟨_, _, rfl⟩)) rfl ?_
       refine ADA.r 6 rfl (ARdP.a (rdP_nilc_bx rfl rfl rfl)) rfl ?_
       refine ADA.r 7 rfl (ARdP.a (rdP_faddr_bx rfl fo_99_2 rfl rfl ⟨_, _, rfl⟩)) rfl ?_
       refine ADA.r 10 rfl (ARdP.a (rdP_faddr_bx rfl fo_102_3 rfl rfl ⟨_, _, rfl⟩)) rfl ?_
       refine ADA.r 12 rfl (ARdP.a (rdP_move rfl rfl)) rfl ?_
       refine ADA.r 15 rfl (ARdP.a (rdP_nilc_bx rfl rfl rfl)) rfl ?_
       refine ADA.r 16 rfl (ARdP.a (rdP_faddr_bx rfl fo_99_2 rfl rfl ⟨_, _, rfl⟩)) rfl ?_
       refine ADA.b ?_
       refine ADB.all (is := [2, 5, 11]) (by kernel_rfl) (by simp) ?_
       intro i hi
       simp only [List.mem_cons, List.not_mem_nil, or_false] at hi
       rcases hi with rfl | rfl | rfl
       ·skip
        refine ⟨_, rfl, rfl, AOpB.op (ARd.opB (rd_load_bx rfl ag_3 rfl rfl rfl) ?_)⟩
        refine ADB.n ?_
        refine ADB.all (is := [5, 11]) (by kernel_rfl) (by simp) ?_
        intro i hi
        simp only [List.mem_cons, List.not_mem_nil, or_false] at hi
        rcases hi with rfl | rfl
        ·skip
         refine ⟨_, rfl, rfl, AOpB.op (ARd.opB (rd_load_bx rfl ag_3 rfl rfl rfl) ?_)⟩
         refine ADB.n ?_
         refine ADB.r 8 rfl (rdP_iaddr_bx_ 2 rfl ar_37 rfl rfl rfl) rfl ?_
         refine ADB.all (is := [9, 11]) (by kernel_rfl) (by simp) ?_
         intro i hi
         simp only [List.mem_cons, List.not_mem_nil, or_false] at hi
         rcases hi with rfl | rfl
         ·skip
          refine ⟨_, rfl, rfl, AOpB.op (ARd.opB (rd_load_bx rfl ag_29 rfl rfl rfl) ?_)⟩
          refine ADB.n ?_
          refine ADB.mv 11 rfl (AOpB.op (ARd.opB (rd_load_bx rfl ag_29 rfl rfl rfl) ?_))
          refine ADB.n ?_
          refine ADB.r 13 rfl (rdP_slice_sl rfl el_29 rfl byA_one rfl ⟨_, _, rfl, (Int.toNat_of_nonneg (by omega)).symm⟩ (by omega) (by simp only [byA_len]; simp only [DeedD.count, h26, Bool.false_eq_true, if_false] at hcn; exact hcn)) rfl ?_
          refine ADB.mv 14 rfl (op_appendM rfl ap_29 rfl rfl (src_s rfl) (by rw [hF] at hbl; simp [byA_len]; omega) (by rw [hF] at hbl; simp [byA_len]; omega) ?_)
          refine ADB.n ?_
          refine ADB.r 17 rfl (rdP_iaddr_bx_ 2 rfl ar_37 rfl rfl rfl) rfl ?_
          refine ADB.mv 18 rfl (op_storo rfl rfl rfl rfl rfl sz_29 ?_)
          refine ADB.n ?_
          refine ADB.done (by kernel_rfl) ?_
          exact ⟨rfl, rfl⟩
         ·skip
          refine ⟨_, rfl, rfl, AOpB.op (ARd.opB (rd_load_bx rfl ag_29 rfl rfl rfl) ?_)⟩
          refine ADB.n ?_
          refine ADB.r 13 rfl (rdP_slice_sl rfl el_29 rfl byA_one rfl ⟨_, _, rfl, (Int.toNat_of_nonneg (by omega)).symm⟩ (by omega) (by simp only [byA_len]; simp only [DeedD.count, h26, Bool.false_eq_true, if_false] at hcn; exact hcn)) rfl ?_
          refine ADB.mv 9 rfl (AOpB.op (ARd.opB (rd_load_bx rfl ag_29 rfl rfl rfl) ?_))
          refine ADB.n ?_
          refine ADB.mv 14 rfl (op_appendM rfl ap_29 rfl rfl (src_s rfl) (by rw [hF] at hbl; simp [byA_len]; omega) (by rw [hF] at hbl; simp [byA_len]; omega) ?_)
          refine ADB.n ?_
          refine ADB.r 17 rfl (rdP_iaddr_bx_ 2 rfl ar_37 rfl rfl rfl) rfl ?_
          refine ADB.mv 18 rfl (op_storo rfl rfl rfl rfl rfl sz_29 ?_)
          refine ADB.n ?_
          refine ADB.done (by kernel_rfl) ?_
          exact ⟨rfl, rfl⟩
        ·skip
         refine ⟨_, rfl, rfl, AOpB.op (ARd.opB (rd_load_bx rfl ag_29 rfl rfl rfl) ?_)⟩
         refine ADB.n ?_
         refine ADB.r 13 rfl (rdP_slice_sl rfl el_29 rfl byA_one rfl ⟨_, _, rfl, (Int.toNat_of_nonneg (by omega)).symm⟩ (by omega) (by simp only [byA_len]; simp only [DeedD.count, h26, Bool.false_eq_true, if_false] at hcn; exact hcn)) rfl ?_
         refine ADB.mv 5 rfl (AOpB.op (ARd.opB (rd_load_bx rfl ag_3 rfl rfl rfl) ?_))
         refine ADB.n ?_
         refine ADB.r 8 rfl (rdP_iaddr_bx_ 2 rfl ar_37 rfl rfl rfl) rfl ?_
         refine ADB.mv 9 rfl (AOpB.op (ARd.opB (rd_load_bx rfl ag_29 rfl rfl rfl) ?_))
         refine ADB.n ?_
         refine ADB.mv 14 rfl (op_appendM rfl ap_29 rfl rfl (src_s rfl) (by rw [hF] at hbl; simp [byA_len]; omega) (by rw [hF] at hbl; simp [byA_len]; omega) ?_)
         refine ADB.n ?_
         refine ADB.r 17 rfl (rdP_iaddr_bx_ 2 rfl ar_37 rfl rfl rfl) rfl ?_
         refine ADB.mv 18 rfl (op_storo rfl rfl rfl rfl rfl sz_29 ?_)
         refine ADB.n ?_
         refine ADB.done (by kernel_rfl) ?_
         exact ⟨rfl, rfl⟩
       ·skip
        refine ⟨_, rfl, rfl, AOpB.op (ARd.opB (rd_load_bx rfl ag_3 rfl rfl rfl) ?_)⟩
        refine ADB.n ?_
        refine ADB.r 8 rfl (rdP_iaddr_bx_ 2 rfl ar_37 rfl rfl rfl) rfl ?_
        refine ADB.all (is := [2, 9, 11]) (by kernel_rfl) (by simp) ?_
        intro i hi
        simp only [List.mem_cons, List.not_mem_nil, or_false] at hi
        rcases hi with rfl | rfl | rfl
        ·skip
         refine ⟨_, rfl, rfl, AOpB.op (ARd.opB (rd_load_bx rfl ag_3 rfl rfl rfl) ?_)⟩
         refine ADB.n ?_
         refine ADB.all (is := [9, 11]) (by kernel_rfl) (by simp) ?_
         intro i hi
         simp only [List.mem_cons, List.not_mem_nil, or_false] at hi
         rcases hi with rfl | rfl
         ·skip
          refine ⟨_, rfl, rfl, AOpB.op (ARd.opB (rd_load_bx rfl ag_29 rfl rfl rfl) ?_)⟩
          refine ADB.n ?_
          refine ADB.mv 11 rfl (AOpB.op (ARd.opB (rd_load_bx rfl ag_29 rfl rfl rfl) ?_))
          refine ADB.n ?_
          refine ADB.r 13 rfl (rdP_slice_sl rfl el_29 rfl byA_one rfl ⟨_, _, rfl, (Int.toNat_of_nonneg (by omega)).symm⟩ (by omega) (by simp only [byA_len]; simp only [DeedD.count, h26, Bool.false_eq_true, if_false] at hcn; exact hcn)) rfl ?_
          refine ADB.mv 14 rfl (op_appendM rfl ap_29 rfl rfl (src_s rfl) (by rw [hF] at hbl; simp [byA_len]; omega) (by rw [hF] at hbl; simp [byA_len]; omega) ?_)
          refine ADB.n ?_
          refine ADB.r 17 rfl (rdP_iaddr_bx_ 2 rfl ar_37 rfl rfl rfl) rfl ?_
          refine ADB.mv 18 rfl (op_storo rfl rfl rfl rfl rfl sz_29 ?_)
          refine ADB.n ?_
          refine ADB.done (by kernel_rfl) ?_
          exact ⟨rfl, rfl⟩
         ·skip
          refine ⟨_, rfl, rfl, AOpB.op (ARd.opB (rd_load_bx rfl ag_29 rfl rfl rfl) ?_)⟩
          refine ADB.n ?_
          refine ADB.r 13 rfl (rdP_slice_sl rfl el_29 rfl byA_one rfl ⟨_, _, rfl, (Int.toNat_of_nonneg (by omega)).symm⟩ (by omega) (by simp only [byA_len]; simp only [DeedD.count, h26, Bool.false_eq_true, if_false] at hcn; exact hcn)) rfl ?_
          refine ADB.mv 9 rfl (AOpB.op (ARd.opB (rd_load_bx rfl ag_29 rfl rfl rfl) ?_))
          refine ADB.n ?_
          refine ADB.mv 14 rfl (op_appendM rfl ap_29 rfl rfl (src_s rfl) (by rw [hF] at hbl; simp [byA_len]; omega) (by rw [hF] at hbl; simp [byA_len]; omega) ?_)
          refine ADB.n ?_
          refine ADB.r 17 rfl (rdP_iaddr_bx_ 2 rfl ar_37 rfl rfl rfl) rfl ?_
          refine ADB.mv 18 rfl (op_storo rfl rfl rfl rfl rfl sz_29 ?_)
          refine ADB.n ?_
          refine ADB.done (by kernel_rfl) ?_
          exact ⟨rfl, rfl⟩
        ·skip
         refine ⟨_, rfl, rfl, AOpB.op (ARd.opB (rd_load_bx rfl ag_29 rfl rfl rfl) ?_)⟩
         refine ADB.n ?_
         refine ADB.all (is := [2, 11]) (by kernel_rfl) (by simp) ?_
         intro i hi
         simp only [List.mem_cons, List.not_mem_nil, or_false] at hi
         rcases hi with rfl | rfl
         ·skip
          refine ⟨_, rfl, rfl, AOpB.op (ARd.opB (rd_load_bx rfl ag_3 rfl rfl rfl) ?_)⟩
          refine ADB.n ?_
          refine ADB.mv 11 rfl (AOpB.op (ARd.opB (rd_load_bx rfl ag_29 rfl rfl rfl) ?_))
          refine ADB.n ?_
          refine ADB.r 13 rfl (rdP_slice_sl rfl el_29 rfl byA_one rfl ⟨_, _, rfl, (Int.toNat_of_nonneg (by omega)).symm⟩ (by omega) (by simp only [byA_len]; simp only [DeedD.count, h26, Bool.false_eq_true, if_false] at hcn; exact hcn)) rfl ?_
          refine ADB.mv 14 rfl (op_appendM rfl ap_29 rfl rfl (src_s rfl) (by rw [hF] at hbl; simp [byA_len]; omega) (by rw [hF] at hbl; simp [byA_len]; omega) ?_)
          refine ADB.n ?_
          refine ADB.r 17 rfl (rdP_iaddr_bx_ 2 rfl ar_37 rfl rfl rfl) rfl ?_
          refine ADB.mv 18 rfl (op_storo rfl rfl rfl rfl rfl sz_29 ?_)
          refine ADB.n ?_
          refine ADB.done (by kernel_rfl) ?_
          exact ⟨rfl, rfl⟩
         ·skip
          refine ⟨_, rfl, rfl, AOpB.op (ARd.opB (rd_load_bx rfl ag_29 rfl rfl rfl) ?_)⟩
          refine ADB.n ?_
          refine ADB.r 13 rfl (rdP_slice_sl rfl el_29 rfl byA_one rfl ⟨_, _, rfl, (Int.toNat_of_nonneg (by omega)).symm⟩ (by omega) (by simp only [byA_len]; simp only [DeedD.count, h26, Bool.false_eq_true, if_false] at hcn; exact hcn)) rfl ?_
          refine ADB.all (is := [2, 14]) (by kernel_rfl) (by simp) ?_
          intro i hi
          simp only [List.mem_cons, List.not_mem_nil, or_false] at hi
          rcases hi with rfl | rfl
          ·skip
           refine ⟨_, rfl, rfl, AOpB.op (ARd.opB (rd_load_bx rfl ag_3 rfl rfl rfl) ?_)⟩
           refine ADB.n ?_
           refine ADB.mv 14 rfl (op_appendM rfl ap_29 rfl rfl (src_s rfl) (by rw [hF] at hbl; simp [byA_len]; omega) (by rw [hF] at hbl; simp [byA_len]; omega) ?_)
           refine ADB.n ?_
           refine ADB.r 17 rfl (rdP_iaddr_bx_ 2 rfl ar_37 rfl rfl rfl) rfl ?_
           refine ADB.mv 18 rfl (op_storo rfl rfl rfl rfl rfl sz_29 ?_)
           refine ADB.n ?_
           refine ADB.done (by kernel_rfl) ?_
           exact ⟨rfl, rfl⟩
          ·skip
           refine ⟨_, rfl, rfl, op_appendM rfl ap_29 rfl rfl (src_s rfl) (by rw [hF] at hbl; simp [byA_len]; omega) (by rw [hF] at hbl; simp [byA_len]; omega) ?_⟩
           refine ADB.n ?_
           refine ADB.mv 2 rfl (AOpB.op (ARd.opB (rd_load_bx rfl ag_3 rfl rfl rfl) ?_))
           refine ADB.n ?_
           refine ADB.r 17 rfl (rdP_iaddr_bx_ 2 rfl ar_37 rfl rfl rfl) rfl ?_
           refine ADB.mv 18 rfl (op_storo rfl rfl rfl rfl rfl sz_29 ?_)
           refine ADB.n ?_
           refine ADB.done (by kernel_rfl) ?_
           exact ⟨rfl, rfl⟩
        ·skip
         refine ⟨_, rfl, rfl, AOpB.op (ARd.opB (rd_load_bx rfl ag_29 rfl rfl rfl) ?_)⟩
         refine ADB.n ?_
         refine ADB.r 13 rfl (rdP_slice_sl rfl el_29 rfl byA_one rfl ⟨_, _, rfl, (Int.toNat_of_nonneg (by omega)).symm⟩ (by omega) (by simp only [byA_len]; simp only [DeedD.count, h26, Bool.false_eq_true, if_false] at hcn; exact hcn)) rfl ?_
         refine ADB.all (is := [2, 9]) (by kernel_rfl) (by simp) ?_
         intro i hi
         simp only [List.mem_cons, List.not_mem_nil, or_false] at hi
         rcases hi with rfl | rfl
         ·skip
          refine ⟨_, rfl, rfl, AOpB.op (ARd.opB (rd_load_bx rfl ag_3 rfl rfl rfl) ?_)⟩
          refine ADB.n ?_
          refine ADB.mv 9 rfl (AOpB.op (ARd.opB (rd_load_bx rfl ag_29 rfl rfl rfl) ?_))
          refine ADB.n ?_
          refine ADB.mv 14 rfl (op_appendM rfl ap_29 rfl rfl (src_s rfl) (by rw [hF] at hbl; simp [byA_len]; omega) (by rw [hF] at hbl; simp [byA_len]; omega) ?_)
          refine ADB.n ?_
          refine ADB.r 17 rfl (rdP_iaddr_bx_ 2 rfl ar_37 rfl rfl rfl) rfl ?_
          refine ADB.mv 18 rfl (op_storo rfl rfl rfl rfl rfl sz_29 ?_)
          refine ADB.n ?_
          refine ADB.done (by kernel_rfl) ?_
          exact ⟨rfl, rfl⟩
         ·skip
          refine ⟨_, rfl, rfl, AOpB.op (ARd.opB (rd_load_bx rfl ag_29 rfl rfl rfl) ?_)⟩
          refine ADB.n ?_
          refine ADB.all (is := [2, 14]) (by kernel_rfl) (by simp) ?_
          intro i hi
          simp only [List.mem_cons, List.not_mem_nil, or_false] at hi
          rcases hi with rfl | rfl
          ·skip
           refine ⟨_, rfl, rfl, AOpB.op (ARd.opB (rd_load_bx rfl ag_3 rfl rfl rfl) ?_)⟩
           refine ADB.n ?_
           refine ADB.mv 14 rfl (op_appendM rfl ap_29 rfl rfl (src_s rfl) (by rw [hF] at hbl; simp [byA_len]; omega) (by rw [hF] at hbl; simp [byA_len]; omega) ?_)
           refine ADB.n ?_
           refine ADB.r 17 rfl (rdP_iaddr_bx_ 2 rfl ar_37 rfl rfl rfl) rfl ?_
           refine ADB.mv 18 rfl (op_storo rfl rfl rfl rfl rfl sz_29 ?_)
           refine ADB.n ?_
           refine ADB.done (by kernel_rfl) ?_
           exact ⟨rfl, rfl⟩
          ·skip
           refine ⟨_, rfl, rfl, op_appendM rfl ap_29 rfl rfl (src_s rfl) (by rw [hF] at hbl; simp [byA_len]; omega) (by rw [hF] at hbl; simp [byA_len]; omega) ?_⟩
           refine ADB.n ?_
           refine ADB.mv 2 rfl (AOpB.op (ARd.opB (rd_load_bx rfl ag_3 rfl rfl rfl) ?_))
           refine ADB.n ?_
           refine ADB.r 17 rfl (rdP_iaddr_bx_ 2 rfl ar_37 rfl rfl rfl) rfl ?_
           refine ADB.mv 18 rfl (op_storo rfl rfl rfl rfl rfl sz_29 ?_)
           refine ADB.n ?_
           refine ADB.done (by kernel_rfl) ?_
           exact ⟨rfl, rfl⟩
       ·skip
        refine ⟨_, rfl, rfl, AOpB.op (ARd.opB (rd_load_bx rfl ag_29 rfl rfl rfl) ?_)⟩
        refine ADB.n ?_
        refine ADB.r 13 rfl (rdP_slice_sl rfl el_29 rfl byA_one rfl ⟨_, _, rfl, (Int.toNat_of_nonneg (by omega)).symm⟩ (by omega) (by simp only [byA_len]; simp only [DeedD.count, h26, Bool.false_eq_true, if_false] at hcn; exact hcn)) rfl ?_
        refine ADB.all (is := [2, 5]) (by kernel_rfl) (by simp) ?_
        intro i hi
        simp only [List.mem_cons, List.not_mem_nil, or_false] at hi
        rcases hi with rfl | rfl
        ·skip
         refine ⟨_, rfl, rfl, AOpB.op (ARd.opB (rd_load_bx rfl ag_3 rfl rfl rfl) ?_)⟩
         refine ADB.n ?_
         refine ADB.mv 5 rfl (AOpB.op (ARd.opB (rd_load_bx rfl ag_3 rfl rfl rfl) ?_))
         refine ADB.n ?_
         refine ADB.r 8 rfl (rdP_iaddr_bx_ 2 rfl ar_37 rfl rfl rfl) rfl ?_
         refine ADB.mv 9 rfl (AOpB.op (ARd.opB (rd_load_bx rfl ag_29 rfl rfl rfl) ?_))
         refine ADB.n ?_
         refine ADB.mv 14 rfl (op_appendM rfl ap_29 rfl rfl (src_s rfl) (by rw [hF] at hbl; simp [byA_len]; omega) (by rw [hF] at hbl; simp [byA_len]; omega) ?_)
         refine ADB.n ?_
         refine ADB.r 17 rfl (rdP_iaddr_bx_ 2 rfl ar_37 rfl rfl rfl) rfl ?_
         refine ADB.mv 18 rfl (op_storo rfl rfl rfl rfl rfl sz_29 ?_)
         refine ADB.n ?_
         refine ADB.done (by kernel_rfl) ?_
         exact ⟨rfl, rfl⟩
        ·skip
         refine ⟨_, rfl, rfl, AOpB.op (ARd.opB (rd_load_bx rfl ag_3 rfl rfl rfl) ?_)⟩
         refine ADB.n ?_
         refine ADB.r 8 rfl (rdP_iaddr_bx_ 2 rfl ar_37 rfl rfl rfl) rfl ?_
         refine ADB.all (is := [2, 9]) (by kernel_rfl) (by simp) ?_
         intro i hi
         simp only [List.mem_cons, List.not_mem_nil, or_false] at hi
         rcases hi with rfl | rfl
         ·skip
          refine ⟨_, rfl, rfl, AOpB.op (ARd.opB (rd_load_bx rfl ag_3 rfl rfl rfl) ?_)⟩
          refine ADB.n ?_
          refine ADB.mv 9 rfl (AOpB.op (ARd.opB (rd_load_bx rfl ag_29 rfl rfl rfl) ?_))
          refine ADB.n ?_
          refine ADB.mv 14 rfl (op_appendM rfl ap_29 rfl rfl (src_s rfl) (by rw [hF] at hbl; simp [byA_len]; omega) (by rw [hF] at hbl; simp [byA_len]; omega) ?_)
          refine ADB.n ?_
          refine ADB.r 17 rfl (rdP_iaddr_bx_ 2 rfl ar_37 rfl rfl rfl) rfl ?_
          refine ADB.mv 18 rfl (op_storo rfl rfl rfl rfl rfl sz_29 ?_)
          refine ADB.n ?_
          refine ADB.done (by kernel_rfl) ?_
          exact ⟨rfl, rfl⟩
         ·skip
          refine ⟨_, rfl, rfl, AOpB.op (ARd.opB (rd_load_bx rfl ag_29 rfl rfl rfl) ?_)⟩
          refine ADB.n ?_
          refine ADB.all (is := [2, 14]) (by kernel_rfl) (by simp) ?_
          intro i hi
          simp only [List.mem_cons, List.not_mem_nil, or_false] at hi
          rcases hi with rfl | rfl
          ·skip
           refine ⟨_, rfl, rfl, AOpB.op (ARd.opB (rd_load_bx rfl ag_3 rfl rfl rfl) ?_)⟩
           refine ADB.n ?_
           refine ADB.mv 14 rfl (op_appendM rfl ap_29 rfl rfl (src_s rfl) (by rw [hF] at hbl; simp [byA_len]; omega) (by rw [hF] at hbl; simp [byA_len]; omega) ?_)
           refine ADB.n ?_
           refine ADB.r 17 rfl (rdP_iaddr_bx_ 2 rfl ar_37 rfl rfl rfl) rfl ?_
           refine ADB.mv 18 rfl (op_storo rfl rfl rfl rfl rfl sz_29 ?_)
           refine ADB.n ?_
           refine ADB.done (by kernel_rfl) ?_
           exact ⟨rfl, rfl⟩
          ·skip
           refine ⟨_, rfl, rfl, op_appendM rfl ap_29 rfl rfl (src_s rfl) (by rw [hF] at hbl; simp [byA_len]; omega) (by rw [hF] at hbl; simp [byA_len]; omega) ?_⟩
           refine ADB.n ?_
           refine ADB.mv 2 rfl (AOpB.op (ARd.opB (rd_load_bx rfl ag_3 rfl rfl rfl) ?_))
           refine ADB.n ?_
           refine ADB.r 17 rfl (rdP_iaddr_bx_ 2 rfl ar_37 rfl rfl rfl) rfl ?_
           refine ADB.mv 18 rfl (op_storo rfl rfl rfl rfl rfl sz_29 ?_)
           refine ADB.n ?_
           refine ADB.done (by kernel_rfl) ?_
           exact ⟨rfl, rfl⟩
      skip
      change AW _ _ _ _ _
      refine AW.region ?_
      refine AL.r (rd_arith_add rfl rfl rfl (by first | exact IntWalk.i64_in _ (by omega) | rfl)) ?_
      refine AL.rm ?_
      refine AL.nil ?_
      refine ⟨⟨j + 1, kp - cntN d.q[j] kp, stepL d.q[j] (cntN d.q[j] kp).toNat s, a5, a6, a7 + 1, a8⟩, ?_, by first | omega | (simp only []; omega), ?_, ?_⟩
      ·exact hJ.next hjl h0
      ·simp only [anys, upds, offs, List.set_cons_zero, List.set_cons_succ]; repeat (first | exact Wk.nil | refine Wk.same ?_ | refine Wk.any ?_)
      ·simp only [anys, upds, offs, List.set_cons_zero, List.set_cons_succ]; repeat (first | exact Sk.nil _ | refine Sk.same _ ?_ | refine Sk.scr _ (by decide) ?_ | refine Sk.eq _ (by simp [stepL, upd, hF, h26]) ?_)
     ·skip
      apply AW.drawS (by kernel_rfl)
      ·skip
       refine ADA.r 0 rfl (ARdP.a (rdP_move rfl rfl)) rfl ?_
       refine ADA.r 1 rfl (ARdP.a (rdP_faddr_bx rfl fo_102_0 rfl rfl ⟨_, _, rfl⟩)) rfl ?_
       refine ADA.r 3 rfl (ARdP.a (rdP_move rfl rfl)) rfl ?_
       refine ADA.r 4 rfl (ARdP.a (rdP_faddr_bx rfl fo_102_0 rfl rfl ⟨_, _, rfl⟩)) rfl ?_
       refine ADA.r 6 rfl (ARdP.a (rdP_nilc_bx rfl rfl rfl)) rfl ?_
       refine ADA.r 7 rfl (ARdP.a (rdP_faddr_bx rfl fo_99_2 rfl rfl ⟨_, _, rfl⟩)) rfl ?_
       refine ADA.r 10 rfl (ARdP.a (rdP_faddr_bx rfl fo_102_3 rfl rfl ⟨_, _, rfl⟩)) rfl ?_
       refine ADA.r 12 rfl (ARdP.a (rdP_move rfl rfl)) rfl ?_
       refine ADA.r 15 rfl (ARdP.a (rdP_nilc_bx rfl rfl rfl)) rfl ?_
       refine ADA.r 16 rfl (ARdP.a (rdP_faddr_bx rfl fo_99_2 rfl rfl ⟨_, _, rfl⟩)) rfl ?_
       refine ADA.b ?_
       refine ADB.all (is := [2, 5, 11]) (by kernel_rfl) (by simp) ?_
       intro i hi
       simp only [List.mem_cons, List.not_mem_nil, or_false] at hi
       rcases hi with rfl | rfl | rfl
       ·skip
        refine ⟨_, rfl, rfl, AOpB.op (ARd.opB (rd_load_bx rfl ag_3 rfl rfl rfl) ?_)⟩
        refine ADB.n ?_
        refine ADB.all (is := [5, 11]) (by kernel_rfl) (by simp) ?_
        intro i hi
        simp only [List.mem_cons, List.not_mem_nil, or_false] at hi
        rcases hi with rfl | rfl
        ·skip
         refine ⟨_, rfl, rfl, AOpB.op (ARd.opB (rd_load_bx rfl ag_3 rfl rfl rfl) ?_)⟩
         refine ADB.n ?_
         refine ADB.r 8 rfl (rdP_iaddr_bx_ 3 rfl ar_37 rfl rfl rfl) rfl ?_
         refine ADB.all (is := [9, 11]) (by kernel_rfl) (by simp) ?_
         intro i hi
         simp only [List.mem_cons, List.not_mem_nil, or_false] at hi
         rcases hi with rfl | rfl
         ·skip
          refine ⟨_, rfl, rfl, AOpB.op (ARd.opB (rd_load_bx rfl ag_29 rfl rfl rfl) ?_)⟩
          refine ADB.n ?_
          refine ADB.mv 11 rfl (AOpB.op (ARd.opB (rd_load_bx rfl ag_29 rfl rfl rfl) ?_))
          refine ADB.n ?_
          refine ADB.r 13 rfl (rdP_slice_sl rfl el_29 rfl byA_one rfl ⟨_, _, rfl, (Int.toNat_of_nonneg (by omega)).symm⟩ (by omega) (by simp only [byA_len]; simp only [DeedD.count, h26, Bool.false_eq_true, if_false] at hcn; exact hcn)) rfl ?_
          refine ADB.mv 14 rfl (op_appendM rfl ap_29 rfl rfl (src_s rfl) (by rw [hF] at hbl; simp [byA_len]; omega) (by rw [hF] at hbl; simp [byA_len]; omega) ?_)
          refine ADB.n ?_
          refine ADB.r 17 rfl (rdP_iaddr_bx_ 3 rfl ar_37 rfl rfl rfl) rfl ?_
          refine ADB.mv 18 rfl (op_storo rfl rfl rfl rfl rfl sz_29 ?_)
          refine ADB.n ?_
          refine ADB.done (by kernel_rfl) ?_
          exact ⟨rfl, rfl⟩
         ·skip
          refine ⟨_, rfl, rfl, AOpB.op (ARd.opB (rd_load_bx rfl ag_29 rfl rfl rfl) ?_)⟩
          refine ADB.n ?_
          refine ADB.r 13 rfl (rdP_slice_sl rfl el_29 rfl byA_one rfl ⟨_, _, rfl, (Int.toNat_of_nonneg (by omega)).symm⟩ (by omega) (by simp only [byA_len]; simp only [DeedD.count, h26, Bool.false_eq_true, if_false] at hcn; exact hcn)) rfl ?_
          refine ADB.mv 9 rfl (AOpB.op (ARd.opB (rd_load_bx rfl ag_29 rfl rfl rfl) ?_))
          refine ADB.n ?_
          refine ADB.mv 14 rfl (op_appendM rfl ap_29 rfl rfl (src_s rfl) (by rw [hF] at hbl; simp [byA_len]; omega) (by rw [hF] at hbl; simp [byA_len]; omega) ?_)
          refine ADB.n ?_
          refine ADB.r 17 rfl (rdP_iaddr_bx_ 3 rfl ar_37 rfl rfl rfl) rfl ?_
          refine ADB.mv 18 rfl (op_storo rfl rfl rfl rfl rfl sz_29 ?_)
          refine ADB.n ?_
          refine ADB.done (by kernel_rfl) ?_
          exact ⟨rfl, rfl⟩
        ·skip
         refine ⟨_, rfl, rfl, AOpB.op (ARd.opB (rd_load_bx rfl ag_29 rfl rfl rfl) ?_)⟩
         refine ADB.n ?_
         refine ADB.r 13 rfl (rdP_slice_sl rfl el_29 rfl byA_one rfl ⟨_, _, rfl, (Int.toNat_of_nonneg (by omega)).symm⟩ (by omega) (by simp only [byA_len]; simp only [DeedD.count, h26, Bool.false_eq_true, if_false] at hcn; exact hcn)) rfl ?_
         refine ADB.mv 5 rfl (AOpB.op (ARd.opB (rd_load_bx rfl ag_3 rfl rfl rfl) ?_))
         refine ADB.n ?_
         refine ADB.r 8 rfl (rdP_iaddr_bx_ 3 rfl ar_37 rfl rfl rfl) rfl ?_
         refine ADB.mv 9 rfl (AOpB.op (ARd.opB (rd_load_bx rfl ag_29 rfl rfl rfl) ?_))
         refine ADB.n ?_
         refine ADB.mv 14 rfl (op_appendM rfl ap_29 rfl rfl (src_s rfl) (by rw [hF] at hbl; simp [byA_len]; omega) (by rw [hF] at hbl; simp [byA_len]; omega) ?_)
         refine ADB.n ?_
         refine ADB.r 17 rfl (rdP_iaddr_bx_ 3 rfl ar_37 rfl rfl rfl) rfl ?_
         refine ADB.mv 18 rfl (op_storo rfl rfl rfl rfl rfl sz_29 ?_)
         refine ADB.n ?_
         refine ADB.done (by kernel_rfl) ?_
         exact ⟨rfl, rfl⟩
       ·skip
        refine ⟨_, rfl, rfl, AOpB.op (ARd.opB (rd_load_bx rfl ag_3 rfl rfl rfl) ?_)⟩
        refine ADB.n ?_
        refine ADB.r 8 rfl (rdP_iaddr_bx_ 3 rfl ar_37 rfl rfl rfl) rfl ?_
        refine ADB.all (is := [2, 9, 11]) (by kernel_rfl) (by simp) ?_
        intro i hi
        simp only [List.mem_cons, List.not_mem_nil, or_false] at hi
        rcases hi with rfl | rfl | rfl
        ·skip
         refine ⟨_, rfl, rfl, AOpB.op (ARd.opB (rd_load_bx rfl ag_3 rfl rfl rfl) ?_)⟩
         refine ADB.n ?_
         refine ADB.all (is := [9, 11]) (by kernel_rfl) (by simp) ?_
         intro i hi
         simp only [List.mem_cons, List.not_mem_nil, or_false] at hi
         rcases hi with rfl | rfl
         ·skip
          refine ⟨_, rfl, rfl, AOpB.op (ARd.opB (rd_load_bx rfl ag_29 rfl rfl rfl) ?_)⟩
          refine ADB.n ?_
          refine ADB.mv 11 rfl (AOpB.op (ARd.opB (rd_load_bx rfl ag_29 rfl rfl rfl) ?_))
          refine ADB.n ?_
          refine ADB.r 13 rfl (rdP_slice_sl rfl el_29 rfl byA_one rfl ⟨_, _, rfl, (Int.toNat_of_nonneg (by omega)).symm⟩ (by omega) (by simp only [byA_len]; simp only [DeedD.count, h26, Bool.false_eq_true, if_false] at hcn; exact hcn)) rfl ?_
          refine ADB.mv 14 rfl (op_appendM rfl ap_29 rfl rfl (src_s rfl) (by rw [hF] at hbl; simp [byA_len]; omega) (by rw [hF] at hbl; simp [byA_len]; omega) ?_)
          refine ADB.n ?_
          refine ADB.r 17 rfl (rdP_iaddr_bx_ 3 rfl ar_37 rfl rfl rfl) rfl ?_
          refine ADB.mv 18 rfl (op_storo rfl rfl rfl rfl rfl sz_29 ?_)
          refine ADB.n ?_
          refine ADB.done (by kernel_rfl) ?_
          exact ⟨rfl, rfl⟩
         ·skip
          refine ⟨_, rfl, rfl, AOpB.op (ARd.opB (rd_load_bx rfl ag_29 rfl rfl rfl) ?_)⟩
          refine ADB.n ?_
          refine ADB.r 13 rfl (rdP_slice_sl rfl el_29 rfl byA_one rfl ⟨_, _, rfl, (Int.toNat_of_nonneg (by omega)).symm⟩ (by omega) (by simp only [byA_len]; simp only [DeedD.count, h26, Bool.false_eq_true, if_false] at hcn; exact hcn)) rfl ?_
          refine ADB.mv 9 rfl (AOpB.op (ARd.opB (rd_load_bx rfl ag_29 rfl rfl rfl) ?_))
          refine ADB.n ?_
          refine ADB.mv 14 rfl (op_appendM rfl ap_29 rfl rfl (src_s rfl) (by rw [hF] at hbl; simp [byA_len]; omega) (by rw [hF] at hbl; simp [byA_len]; omega) ?_)
          refine ADB.n ?_
          refine ADB.r 17 rfl (rdP_iaddr_bx_ 3 rfl ar_37 rfl rfl rfl) rfl ?_
          refine ADB.mv 18 rfl (op_storo rfl rfl rfl rfl rfl sz_29 ?_)
          refine ADB.n ?_
          refine ADB.done (by kernel_rfl) ?_
          exact ⟨rfl, rfl⟩
        ·skip
         refine ⟨_, rfl, rfl, AOpB.op (ARd.opB (rd_load_bx rfl ag_29 rfl rfl rfl) ?_)⟩
         refine ADB.n ?_
         refine ADB.all (is := [2, 11]) (by kernel_rfl) (by simp) ?_
         intro i hi
         simp only [List.mem_cons, List.not_mem_nil, or_false] at hi
         rcases hi with rfl | rfl
         ·skip
          refine ⟨_, rfl, rfl, AOpB.op (ARd.opB (rd_load_bx rfl ag_3 rfl rfl rfl) ?_)⟩
          refine ADB.n ?_
          refine ADB.mv 11 rfl (AOpB.op (ARd.opB (rd_load_bx rfl ag_29 rfl rfl rfl) ?_))
          refine ADB.n ?_
          refine ADB.r 13 rfl (rdP_slice_sl rfl el_29 rfl byA_one rfl ⟨_, _, rfl, (Int.toNat_of_nonneg (by omega)).symm⟩ (by omega) (by simp only [byA_len]; simp only [DeedD.count, h26, Bool.false_eq_true, if_false] at hcn; exact hcn)) rfl ?_
          refine ADB.mv 14 rfl (op_appendM rfl ap_29 rfl rfl (src_s rfl) (by rw [hF] at hbl; simp [byA_len]; omega) (by rw [hF] at hbl; simp [byA_len]; omega) ?_)
          refine ADB.n ?_
          refine ADB.r 17 rfl (rdP_iaddr_bx_ 3 rfl ar_37 rfl rfl rfl) rfl ?_
          refine ADB.mv 18 rfl (op_storo rfl rfl rfl rfl rfl sz_29 ?_)
          refine ADB.n ?_
          refine ADB.done (by kernel_rfl) ?_
          exact ⟨rfl, rfl⟩
         ·skip
          refine ⟨_, rfl, rfl, AOpB.op (ARd.opB (rd_load_bx rfl ag_29 rfl rfl rfl) ?_)⟩
          refine ADB.n ?_
          refine ADB.r 13 rfl (rdP_slice_sl rfl el_29 rfl byA_one rfl ⟨_, _, rfl, (Int.toNat_of_nonneg (by omega)).symm⟩ (by omega) (by simp only [byA_len]; simp only [DeedD.count, h26, Bool.false_eq_true, if_false] at hcn; exact hcn)) rfl ?_
          refine ADB.all (is := [2, 14]) (by kernel_rfl) (by simp) ?_
          intro i hi
          simp only [List.mem_cons, List.not_mem_nil, or_false] at hi
          rcases hi with rfl | rfl
          ·skip
           refine ⟨_, rfl, rfl, AOpB.op (ARd.opB (rd_load_bx rfl ag_3 rfl rfl rfl) ?_)⟩
           refine ADB.n ?_
           refine ADB.mv 14 rfl (op_appendM rfl ap_29 rfl rfl (src_s rfl) (by rw [hF] at hbl; simp [byA_len]; omega) (by rw [hF] at hbl; simp [byA_len]; omega) ?_)
           refine ADB.n ?_
           refine ADB.r 17 rfl (rdP_iaddr_bx_ 3 rfl ar_37 rfl rfl rfl) rfl ?_
           refine ADB.mv 18 rfl (op_storo rfl rfl rfl rfl rfl sz_29 ?_)
           refine ADB.n ?_
           refine ADB.done (by kernel_rfl) ?_
           exact ⟨rfl, rfl⟩
          ·skip
           refine ⟨_, rfl, rfl, op_appendM rfl ap_29 rfl rfl (src_s rfl) (by rw [hF] at hbl; simp [byA_len]; omega) (by rw [hF] at hbl; simp [byA_len]; omega) ?_⟩
           refine ADB.n ?_
           refine ADB.mv 2 rfl (AOpB.op (ARd.opB (rd_load_bx rfl ag_3 rfl rfl rfl) ?_))
           refine ADB.n ?_
           refine ADB.r 17 rfl (rdP_iaddr_bx_ 3 rfl ar_37 rfl rfl rfl) rfl ?_
           refine ADB.mv 18 rfl (op_storo rfl rfl rfl rfl rfl sz_29 ?_)
           refine ADB.n ?_
           refine ADB.done (by kernel_rfl) ?_
           exact ⟨rfl, rfl⟩
        ·skip
         refine ⟨_, rfl, rfl, AOpB.op (ARd.opB (rd_load_bx rfl ag_29 rfl rfl rfl) ?_)⟩
         refine ADB.n ?_
         refine ADB.r 13 rfl (rdP_slice_sl rfl el_29 rfl byA_one rfl ⟨_, _, rfl, (Int.toNat_of_nonneg (by omega)).symm⟩ (by omega) (by simp only [byA_len]; simp only [DeedD.count, h26, Bool.false_eq_true, if_false] at hcn; exact hcn)) rfl ?_
         refine ADB.all (is := [2, 9]) (by kernel_rfl) (by simp) ?_
         intro i hi
         simp only [List.mem_cons, List.not_mem_nil, or_false] at hi
         rcases hi with rfl | rfl
         ·skip
          refine ⟨_, rfl, rfl, AOpB.op (ARd.opB (rd_load_bx rfl ag_3 rfl rfl rfl) ?_)⟩
          refine ADB.n ?_
          refine ADB.mv 9 rfl (AOpB.op (ARd.opB (rd_load_bx rfl ag_29 rfl rfl rfl) ?_))
          refine ADB.n ?_
          refine ADB.mv 14 rfl (op_appendM rfl ap_29 rfl rfl (src_s rfl) (by rw [hF] at hbl; simp [byA_len]; omega) (by rw [hF] at hbl; simp [byA_len]; omega) ?_)
          refine ADB.n ?_
          refine ADB.r 17 rfl (rdP_iaddr_bx_ 3 rfl ar_37 rfl rfl rfl) rfl ?_
          refine ADB.mv 18 rfl (op_storo rfl rfl rfl rfl rfl sz_29 ?_)
          refine ADB.n ?_
          refine ADB.done (by kernel_rfl) ?_
          exact ⟨rfl, rfl⟩
         ·skip
          refine ⟨_, rfl, rfl, AOpB.op (ARd.opB (rd_load_bx rfl ag_29 rfl rfl rfl) ?_)⟩
          refine ADB.n ?_
          refine ADB.all (is := [2, 14]) (by kernel_rfl) (by simp) ?_
          intro i hi
          simp only [List.mem_cons, List.not_mem_nil, or_false] at hi
          rcases hi with rfl | rfl
          ·skip
           refine ⟨_, rfl, rfl, AOpB.op (ARd.opB (rd_load_bx rfl ag_3 rfl rfl rfl) ?_)⟩
           refine ADB.n ?_
           refine ADB.mv 14 rfl (op_appendM rfl ap_29 rfl rfl (src_s rfl) (by rw [hF] at hbl; simp [byA_len]; omega) (by rw [hF] at hbl; simp [byA_len]; omega) ?_)
           refine ADB.n ?_
           refine ADB.r 17 rfl (rdP_iaddr_bx_ 3 rfl ar_37 rfl rfl rfl) rfl ?_
           refine ADB.mv 18 rfl (op_storo rfl rfl rfl rfl rfl sz_29 ?_)
           refine ADB.n ?_
           refine ADB.done (by kernel_rfl) ?_
           exact ⟨rfl, rfl⟩
          ·skip
           refine ⟨_, rfl, rfl, op_appendM rfl ap_29 rfl rfl (src_s rfl) (by rw [hF] at hbl; simp [byA_len]; omega) (by rw [hF] at hbl; simp [byA_len]; omega) ?_⟩
           refine ADB.n ?_
           refine ADB.mv 2 rfl (AOpB.op (ARd.opB (rd_load_bx rfl ag_3 rfl rfl rfl) ?_))
           refine ADB.n ?_
           refine ADB.r 17 rfl (rdP_iaddr_bx_ 3 rfl ar_37 rfl rfl rfl) rfl ?_
           refine ADB.mv 18 rfl (op_storo rfl rfl rfl rfl rfl sz_29 ?_)
           refine ADB.n ?_
           refine ADB.done (by kernel_rfl) ?_
           exact ⟨rfl, rfl⟩
       ·skip
        refine ⟨_, rfl, rfl, AOpB.op (ARd.opB (rd_load_bx rfl ag_29 rfl rfl rfl) ?_)⟩
        refine ADB.n ?_
        refine ADB.r 13 rfl (rdP_slice_sl rfl el_29 rfl byA_one rfl ⟨_, _, rfl, (Int.toNat_of_nonneg (by omega)).symm⟩ (by omega) (by simp only [byA_len]; simp only [DeedD.count, h26, Bool.false_eq_true, if_false] at hcn; exact hcn)) rfl ?_
        refine ADB.all (is := [2, 5]) (by kernel_rfl) (by simp) ?_
        intro i hi
        simp only [List.mem_cons, List.not_mem_nil, or_false] at hi
        rcases hi with rfl | rfl
        ·skip
         refine ⟨_, rfl, rfl, AOpB.op (ARd.opB (rd_load_bx rfl ag_3 rfl rfl rfl) ?_)⟩
         refine ADB.n ?_
         refine ADB.mv 5 rfl (AOpB.op (ARd.opB (rd_load_bx rfl ag_3 rfl rfl rfl) ?_))
         refine ADB.n ?_
         refine ADB.r 8 rfl (rdP_iaddr_bx_ 3 rfl ar_37 rfl rfl rfl) rfl ?_
         refine ADB.mv 9 rfl (AOpB.op (ARd.opB (rd_load_bx rfl ag_29 rfl rfl rfl) ?_))
         refine ADB.n ?_
         refine ADB.mv 14 rfl (op_appendM rfl ap_29 rfl rfl (src_s rfl) (by rw [hF] at hbl; simp [byA_len]; omega) (by rw [hF] at hbl; simp [byA_len]; omega) ?_)
         refine ADB.n ?_
         refine ADB.r 17 rfl (rdP_iaddr_bx_ 3 rfl ar_37 rfl rfl rfl) rfl ?_
         refine ADB.mv 18 rfl (op_storo rfl rfl rfl rfl rfl sz_29 ?_)
         refine ADB.n ?_
         refine ADB.done (by kernel_rfl) ?_
         exact ⟨rfl, rfl⟩
        ·skip
         refine ⟨_, rfl, rfl, AOpB.op (ARd.opB (rd_load_bx rfl ag_3 rfl rfl rfl) ?_)⟩
         refine ADB.n ?_
         refine ADB.r 8 rfl (rdP_iaddr_bx_ 3 rfl ar_37 rfl rfl rfl) rfl ?_
         refine ADB.all (is := [2, 9]) (by kernel_rfl) (by simp) ?_
         intro i hi
         simp only [List.mem_cons, List.not_mem_nil, or_false] at hi
         rcases hi with rfl | rfl
         ·skip
          refine ⟨_, rfl, rfl, AOpB.op (ARd.opB (rd_load_bx rfl ag_3 rfl rfl rfl) ?_)⟩
          refine ADB.n ?_
          refine ADB.mv 9 rfl (AOpB.op (ARd.opB (rd_load_bx rfl ag_29 rfl rfl rfl) ?_))
          refine ADB.n ?_
          refine ADB.mv 14 rfl (op_appendM rfl ap_29 rfl rfl (src_s rfl) (by rw [hF] at hbl; simp [byA_len]; omega) (by rw [hF] at hbl; simp [byA_len]; omega) ?_)
          refine ADB.n ?_
          refine ADB.r 17 rfl (rdP_iaddr_bx_ 3 rfl ar_37 rfl rfl rfl) rfl ?_
          refine ADB.mv 18 rfl (op_storo rfl rfl rfl rfl rfl sz_29 ?_)
          refine ADB.n ?_
          refine ADB.done (by kernel_rfl) ?_
          exact ⟨rfl, rfl⟩
         ·skip
          refine ⟨_, rfl, rfl, AOpB.op (ARd.opB (rd_load_bx rfl ag_29 rfl rfl rfl) ?_)⟩
          refine ADB.n ?_
          refine ADB.all (is := [2, 14]) (by kernel_rfl) (by simp) ?_
          intro i hi
          simp only [List.mem_cons, List.not_mem_nil, or_false] at hi
          rcases hi with rfl | rfl
          ·skip
           refine ⟨_, rfl, rfl, AOpB.op (ARd.opB (rd_load_bx rfl ag_3 rfl rfl rfl) ?_)⟩
           refine ADB.n ?_
           refine ADB.mv 14 rfl (op_appendM rfl ap_29 rfl rfl (src_s rfl) (by rw [hF] at hbl; simp [byA_len]; omega) (by rw [hF] at hbl; simp [byA_len]; omega) ?_)
           refine ADB.n ?_
           refine ADB.r 17 rfl (rdP_iaddr_bx_ 3 rfl ar_37 rfl rfl rfl) rfl ?_
           refine ADB.mv 18 rfl (op_storo rfl rfl rfl rfl rfl sz_29 ?_)
           refine ADB.n ?_
           refine ADB.done (by kernel_rfl) ?_
           exact ⟨rfl, rfl⟩
          ·skip
           refine ⟨_, rfl, rfl, op_appendM rfl ap_29 rfl rfl (src_s rfl) (by rw [hF] at hbl; simp [byA_len]; omega) (by rw [hF] at hbl; simp [byA_len]; omega) ?_⟩
           refine ADB.n ?_
           refine ADB.mv 2 rfl (AOpB.op (ARd.opB (rd_load_bx rfl ag_3 rfl rfl rfl) ?_))
           refine ADB.n ?_
           refine ADB.r 17 rfl (rdP_iaddr_bx_ 3 rfl ar_37 rfl rfl rfl) rfl ?_
           refine ADB.mv 18 rfl (op_storo rfl rfl rfl rfl rfl sz_29 ?_)
           refine ADB.n ?_
           refine ADB.done (by kernel_rfl) ?_
           exact ⟨rfl, rfl⟩
      skip
      change AW _ _ _ _ _
      refine AW.region ?_
      refine AL.r (rd_arith_add rfl rfl rfl (by first | exact IntWalk.i64_in _ (by omega) | rfl)) ?_
      refine AL.rm ?_
      refine AL.nil ?_
      refine ⟨⟨j + 1, kp - cntN d.q[j] kp, stepL d.q[j] (cntN d.q[j] kp).toNat s, a5, a6, a7, a8 + 1⟩, ?_, by first | omega | (simp only []; omega), ?_, ?_⟩
      ·exact hJ.next hjl h0
      ·simp only [anys, upds, offs, List.set_cons_zero, List.set_cons_succ]; repeat (first | exact Wk.nil | refine Wk.same ?_ | refine Wk.any ?_)
      ·simp only [anys, upds, offs, List.set_cons_zero, List.set_cons_succ]; repeat (first | exact Sk.nil _ | refine Sk.same _ ?_ | refine Sk.scr _ (by decide) ?_ | refine Sk.eq _ (by simp [stepL, upd, hF, h26]) ?_)
  ·skip
   refine AW.exit ?_
   change AW _ _ _ _ _
   refine AW.seq ?_
   refine AW.region ?_
   refine AL.rm ?_
   refine AL.r (rd_nilc_bx rfl rfl rfl) ?_
   refine AL.r (rd_faddr_bx rfl fo_99_3 rfl rfl ⟨_, _, rfl⟩) ?_
   refine AL.op rfl (op_store_ rfl rfl rfl rfl rfl sz_97 ?_)
   refine AL.no ?_
   refine AL.nil ?_
   change AW _ _ _ _ _
   refine AW.region ?_
   refine AL.nilbx 0 9 9 102 4 rfl rfl rfl (by decide) ?_
   refine AL.no ?_
   refine AL.rm ?_
   refine AL.r (rd_nilc_bx rfl rfl rfl) ?_
   refine AL.r (rd_faddr_bx rfl fo_99_4 rfl rfl ⟨_, _, rfl⟩) ?_
   refine AL.op rfl (op_store_ rfl rfl rfl rfl rfl sz_3 ?_)
   refine AL.no ?_
   refine AL.nil ?_
   repeat with_reducible first | refine thenA_ret ?_ | refine inBlockA_ret ?_
   with_reducible first | refine retO_ret ?_ | refine retO_normal ?_
   refine reso0S rfl  ?_
   first | (have e := hJ.stop (by omega); exact ⟨rfl, by rw [e.2]; exact ⟨_, _, _, _, _, _, _, _, _, rfl⟩⟩) | (have e := hJ.brk (by omega) h21; exact ⟨rfl, by rw [e.2]; exact ⟨_, _, _, _, _, _, _, _, _, rfl⟩⟩)
end
end Go.Proofs.Ytgjpeldgjpgbcaa
