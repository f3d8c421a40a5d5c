/- The vault as tickets: its small functions, walked over abstract states. -/
import Derived.Test.YtgjpeldgjpgbcaaSltD
namespace Go.Proofs.Ytgjpeldgjpgbcaa
set_option linter.unusedSimpArgs false
set_option linter.unusedVariables false
set_option maxRecDepth 100000
open Go.RowKit

structure VltD where
  file : Int
  down : Bool
def vBox (G : Nat) (t : Nat → Nat) (gs gl : Nat) (V : VltD) : TC := .box 126 (fatC [.bx 3 G 0] t [.bx 1 gs 0, .bx 2 gl 0, .sc (.int .i64 V.file), .sc (.bool V.down)])
def VltT (gv gs gl G : Nat) (t : Nat → Nat) (V : VltD) (S : SltD) (L : LogD) (d : DiskD) : List TK :=
  [⟨gv, .box 126 (fatC [.bx 3 G 0] t [.bx 1 gs 0, .bx 2 gl 0, .sc (.int .i64 V.file), .sc (.bool V.down)])⟩,
   ⟨gs, .box 119 (fatC [.bx 3 G 0] t [.sc (.int .i64 S.file), .sc (.int .i64 S.counts), .sc (.int .i64 S.epoch), .sl (byA S.bytes), .sc (.bool S.down)])⟩,
   ⟨gl, .box 111 (fatC [.bx 3 G 0] t [.sc (.int .i64 L.file), .sc (.bool L.down), .sc (.int .i64 L.records), .sc (.int .i64 L.used), .sc (.int .i64 L.fresh)])⟩,
   ⟨G, .obj (DiskP d)⟩]
section
variable {P : Program} {o : Oper} {t : List AV} {st : List TK} {ops : Array Oper} {l : List Oper} {fuel : Nat} {listed : Array Bool}
theorem calloV {xs : Array Operand} {Ts : Array TypeId} {K : AV → List TK → Prop} {f : FuncId} {ys : List AV} {os : List TK} {R : AV → List TK → Prop} (hC : ACo P f ys os R) (ks : List Nat) (h : ∀ y os', R y os' → K (ren2 ks y) (putT ks st ks os')) (ho : o.op = .call { callee := .value (.func f), args := xs, argTypes := Ts } := by rfl) (hok : callOk P f = true := by kernel_rfl) (hnd : ks.Nodup := by decide) (hsub : subT st ks (os.map (renT ks)) := by simp only [VltT, SltT, LogT, fat_ren, fat_all, List.map_cons, List.map_nil, renT, renC_owM, renC_box, renC_own, renC_nown, renC_obj, renC_off, ren0, List.getD_cons_zero, List.getD_cons_succ]; repeat (first | exact trivial | refine ⟨rfl, ?_⟩)) (hargs : xs.toList.map (fun x => nzA (evA t x)) = ys.map (ren1 ks) := by rfl) (hoa : ys.all (ok1 os) = true := by simp only [VltT, SltT, LogT, fat_ren, fat_all, cleanS, cle_owM, cle_own, cle_nown, cle_obj, cle_off, cle_box, okC, liveA, List.take_succ_cons, List.take_zero, List.all_cons, List.all_nil, List.getElem?_cons_zero, List.getElem?_cons_succ, isO_owM, isO_own, isO_nown, TC.isB, beq_self_eq_true, Bool.and_self, Bool.and_true, ok1, ok2, List.map_cons, List.map_nil]) (hcl : cleanS os = true := by simp only [VltT, SltT, LogT, fat_ren, fat_all, cleanS, cle_owM, cle_own, cle_nown, cle_obj, cle_off, cle_box, okC, liveA, List.take_succ_cons, List.take_zero, List.all_cons, List.all_nil, List.getElem?_cons_zero, List.getElem?_cons_succ, isO_owM, isO_own, isO_nown, TC.isB, beq_self_eq_true, Bool.and_self, Bool.and_true, ok1, ok2, List.map_cons, List.map_nil]) : AOp P o t st K := op_callo hC ho hok ks hnd hsub hargs hoa hcl h
theorem centrV {K : AV → List TK → Prop} {f : FuncId} {us ys : List AV} {os : List TK} {R : AV → List TK → Prop} (hC : ACo P f ys os R) (hE : Ent P o t st f us) (ks : List Nat) (h : ∀ y os', R y os' → K (ren2 ks y) (putT ks st ks os')) (hnd : ks.Nodup := by decide) (hsub : subT st ks (os.map (renT ks)) := by simp only [VltT, SltT, LogT, fat_ren, fat_all, List.map_cons, List.map_nil, renT, renC_owM, renC_box, renC_own, renC_nown, renC_obj, renC_off, ren0, List.getD_cons_zero, List.getD_cons_succ]; repeat (first | exact trivial | refine ⟨rfl, ?_⟩)) (hargs : us.map nzA = ys.map (ren1 ks) := by rfl) (hoa : ys.all (ok1 os) = true := by simp only [VltT, SltT, LogT, fat_ren, fat_all, cleanS, cle_owM, cle_own, cle_nown, cle_obj, cle_off, cle_box, okC, liveA, List.take_succ_cons, List.take_zero, List.all_cons, List.all_nil, List.getElem?_cons_zero, List.getElem?_cons_succ, isO_owM, isO_own, isO_nown, TC.isB, beq_self_eq_true, Bool.and_self, Bool.and_true, ok1, ok2, List.map_cons, List.map_nil]) (hcl : cleanS os = true := by simp only [VltT, SltT, LogT, fat_ren, fat_all, cleanS, cle_owM, cle_own, cle_nown, cle_obj, cle_off, cle_box, okC, liveA, List.take_succ_cons, List.take_zero, List.all_cons, List.all_nil, List.getElem?_cons_zero, List.getElem?_cons_succ, isO_owM, isO_own, isO_nown, TC.isB, beq_self_eq_true, Bool.and_self, Bool.and_true, ok1, ok2, List.map_cons, List.map_nil]) : AOp P o t st K := op_enter hC hE ks hnd hsub hargs hoa hcl h
theorem AL.noV {K : List AV → List TK → Prop} {t' : List AV} {st' : List TK} (h : AL P ops K l t' st') (ht : t = t' := by (try simp only [VltT, SltT, LogT, fat_ren, fat_all, putA, evA, List.getD_cons_zero, List.getD_cons_succ, List.set_cons_zero, List.set_cons_succ, List.length_map, KR, splA, List.map_cons, List.map_nil, List.length_append, List.length_cons, List.length_nil, List.drop_zero, csS_len, csS_take, csS_drop, csS_app, byA_len, byA_take, byA_drop, byA_app, ← List.map_take, ← List.map_drop, ← List.map_append, List.take_succ_cons, List.take_zero, List.drop_succ_cons, List.cons_append, List.nil_append, Nat.zero_add, Nat.reduceAdd, Nat.reduceMul, Nat.add_zero, Nat.mul_one, putT, renT, renC_owM, renC_box, renC_own, renC_nown, renC_obj, renC_off, ren2, ren1, ren0, ok1, ok2]); (try rfl)) (hs : st = st' := by (try simp only [VltT, SltT, LogT, fat_ren, fat_all, putA, evA, List.getD_cons_zero, List.getD_cons_succ, List.set_cons_zero, List.set_cons_succ, List.length_map, KR, splA, List.map_cons, List.map_nil, List.length_append, List.length_cons, List.length_nil, List.drop_zero, csS_len, csS_take, csS_drop, csS_app, byA_len, byA_take, byA_drop, byA_app, ← List.map_take, ← List.map_drop, ← List.map_append, List.take_succ_cons, List.take_zero, List.drop_succ_cons, List.cons_append, List.nil_append, Nat.zero_add, Nat.reduceAdd, Nat.reduceMul, Nat.add_zero, Nat.mul_one, putT, renT, renC_owM, renC_box, renC_own, renC_nown, renC_obj, renC_off, ren2, ren1, ren0, ok1, ok2]); (try rfl)) : AL P ops K l t st := by subst ht hs; exact h
theorem ADB.noV {K : List AV → List TK → Prop} {t' : List AV} {st' : List TK} (h : ADB P l K fuel listed t' st') (ht : t = t' := by (try simp only [VltT, SltT, LogT, fat_ren, fat_all, putA, evA, List.getD_cons_zero, List.getD_cons_succ, List.set_cons_zero, List.set_cons_succ, List.length_map, KR, splA, List.map_cons, List.map_nil, List.length_append, List.length_cons, List.length_nil, List.drop_zero, csS_len, csS_take, csS_drop, csS_app, byA_len, byA_take, byA_drop, byA_app, ← List.map_take, ← List.map_drop, ← List.map_append, List.take_succ_cons, List.take_zero, List.drop_succ_cons, List.cons_append, List.nil_append, Nat.zero_add, Nat.reduceAdd, Nat.reduceMul, Nat.add_zero, Nat.mul_one, putT, renT, renC_owM, renC_box, renC_own, renC_nown, renC_obj, renC_off, ren2, ren1, ren0, ok1, ok2]); (try rfl)) (hs : st = st' := by (try simp only [VltT, SltT, LogT, fat_ren, fat_all, putA, evA, List.getD_cons_zero, List.getD_cons_succ, List.set_cons_zero, List.set_cons_succ, List.length_map, KR, splA, List.map_cons, List.map_nil, List.length_append, List.length_cons, List.length_nil, List.drop_zero, csS_len, csS_take, csS_drop, csS_app, byA_len, byA_take, byA_drop, byA_app, ← List.map_take, ← List.map_drop, ← List.map_append, List.take_succ_cons, List.take_zero, List.drop_succ_cons, List.cons_append, List.nil_append, Nat.zero_add, Nat.reduceAdd, Nat.reduceMul, Nat.add_zero, Nat.mul_one, putT, renT, renC_owM, renC_box, renC_own, renC_nown, renC_obj, renC_off, ren2, ren1, ren0, ok1, ok2]); (try rfl)) : ADB P l K fuel listed t st := by subst ht hs; exact h
theorem reso0V {fn : Func} {n : Nat} {R : AV → List TK → Prop} (hr : fn.results = #[]) (h : R (.tu []) (st.take n)) (hn : n ≤ st.length := by exact Nat.le_of_ble_eq_true rfl) (hc : cleanS (st.take n) = true := by simp only [VltT, SltT, LogT, fat_ren, fat_all, cleanS, cle_owM, cle_own, cle_nown, cle_obj, cle_off, cle_box, okC, liveA, List.take_succ_cons, List.take_zero, List.all_cons, List.all_nil, List.getElem?_cons_zero, List.getElem?_cons_succ, isO_owM, isO_own, isO_nown, TC.isB, beq_self_eq_true, Bool.and_self, Bool.and_true, ok1, ok2, List.map_cons, List.map_nil]) : ResO P fn n R t st := reso0 hr hn hc h
theorem reso1V {fn : Func} {n : Nat} {R : AV → List TK → Prop} {r1 : ResultVar} {z1 y1 : AV} (hr : fn.results = #[r1]) (h1 : ResV P t st r1 z1) (hz1 : resO1 n st z1 = some y1) (h : R (y1) (st.take n)) (hn : n ≤ st.length := by exact Nat.le_of_ble_eq_true rfl) (hc : cleanS (st.take n) = true := by simp only [VltT, SltT, LogT, fat_ren, fat_all, cleanS, cle_owM, cle_own, cle_nown, cle_obj, cle_off, cle_box, okC, liveA, List.take_succ_cons, List.take_zero, List.all_cons, List.all_nil, List.getElem?_cons_zero, List.getElem?_cons_succ, isO_owM, isO_own, isO_nown, TC.isB, beq_self_eq_true, Bool.and_self, Bool.and_true, ok1, ok2, List.map_cons, List.map_nil]) (hok : ok2 (st.take n) (y1) = true := by simp only [VltT, SltT, LogT, fat_ren, fat_all, cleanS, cle_owM, cle_own, cle_nown, cle_obj, cle_off, cle_box, okC, liveA, List.take_succ_cons, List.take_zero, List.all_cons, List.all_nil, List.getElem?_cons_zero, List.getElem?_cons_succ, isO_owM, isO_own, isO_nown, TC.isB, beq_self_eq_true, Bool.and_self, Bool.and_true, ok1, ok2, List.map_cons, List.map_nil]) : ResO P fn n R t st := reso1 hr hn hc h1 hz1 hok h
theorem reso2V {fn : Func} {n : Nat} {R : AV → List TK → Prop} {r1 r2 : ResultVar} {z1 y1 z2 y2 : AV} (hr : fn.results = #[r1, r2]) (h1 : ResV P t st r1 z1) (hz1 : resO1 n st z1 = some y1) (h2 : ResV P t st r2 z2) (hz2 : resO1 n st z2 = some y2) (h : R (.tu [y1, y2]) (st.take n)) (hn : n ≤ st.length := by exact Nat.le_of_ble_eq_true rfl) (hc : cleanS (st.take n) = true := by simp only [VltT, SltT, LogT, fat_ren, fat_all, cleanS, cle_owM, cle_own, cle_nown, cle_obj, cle_off, cle_box, okC, liveA, List.take_succ_cons, List.take_zero, List.all_cons, List.all_nil, List.getElem?_cons_zero, List.getElem?_cons_succ, isO_owM, isO_own, isO_nown, TC.isB, beq_self_eq_true, Bool.and_self, Bool.and_true, ok1, ok2, List.map_cons, List.map_nil]) (hok : ok2 (st.take n) (.tu [y1, y2]) = true := by simp only [VltT, SltT, LogT, fat_ren, fat_all, cleanS, cle_owM, cle_own, cle_nown, cle_obj, cle_off, cle_box, okC, liveA, List.take_succ_cons, List.take_zero, List.all_cons, List.all_nil, List.getElem?_cons_zero, List.getElem?_cons_succ, isO_owM, isO_own, isO_nown, TC.isB, beq_self_eq_true, Bool.and_self, Bool.and_true, ok1, ok2, List.map_cons, List.map_nil]) : ResO P fn n R t st := reso2 hr hn hc h1 hz1 h2 hz2 hok h
theorem reso3V {fn : Func} {n : Nat} {R : AV → List TK → Prop} {r1 r2 r3 : ResultVar} {z1 y1 z2 y2 z3 y3 : AV} (hr : fn.results = #[r1, r2, r3]) (h1 : ResV P t st r1 z1) (hz1 : resO1 n st z1 = some y1) (h2 : ResV P t st r2 z2) (hz2 : resO1 n st z2 = some y2) (h3 : ResV P t st r3 z3) (hz3 : resO1 n st z3 = some y3) (h : R (.tu [y1, y2, y3]) (st.take n)) (hn : n ≤ st.length := by exact Nat.le_of_ble_eq_true rfl) (hc : cleanS (st.take n) = true := by simp only [VltT, SltT, LogT, fat_ren, fat_all, cleanS, cle_owM, cle_own, cle_nown, cle_obj, cle_off, cle_box, okC, liveA, List.take_succ_cons, List.take_zero, List.all_cons, List.all_nil, List.getElem?_cons_zero, List.getElem?_cons_succ, isO_owM, isO_own, isO_nown, TC.isB, beq_self_eq_true, Bool.and_self, Bool.and_true, ok1, ok2, List.map_cons, List.map_nil]) (hok : ok2 (st.take n) (.tu [y1, y2, y3]) = true := by simp only [VltT, SltT, LogT, fat_ren, fat_all, cleanS, cle_owM, cle_own, cle_nown, cle_obj, cle_off, cle_box, okC, liveA, List.take_succ_cons, List.take_zero, List.all_cons, List.all_nil, List.getElem?_cons_zero, List.getElem?_cons_succ, isO_owM, isO_own, isO_nown, TC.isB, beq_self_eq_true, Bool.and_self, Bool.and_true, ok1, ok2, List.map_cons, List.map_nil]) : ResO P fn n R t st := reso3 hr hn hc h1 hz1 h2 hz2 h3 hz3 hok h
end
section
variable (gv gs gl G : Nat) (t : Nat → Nat) (V : VltD) (S : SltD) (L : LogD) (d : DiskD)
theorem vready_c : ACo Try.prog 88 [.bx 0 gv 0] (VltT gv gs gl G t V S L d) (fun y os' => y = .sc (.int .i64 (if (V.down || d.dark) = true then 10 else 0)) ∧ os' = VltT gv gs gl G t { V with down := V.down || d.dark } S L d) := by
  refine ACo.of' (st0 := [⟨gv, .box 126 (fatC [.bx 3 G 0] t [.bx 1 gs 0, .bx 2 gl 0, .sc (.int .i64 V.file), .sc (.bool V.down)])⟩, ⟨gs, .box 119 (fatC [.bx 3 G 0] t [.sc (.int .i64 S.file), .sc (.int .i64 S.counts), .sc (.int .i64 S.epoch), .sl (byA S.bytes), .sc (.bool S.down)])⟩, ⟨gl, .box 111 (fatC [.bx 3 G 0] t [.sc (.int .i64 L.file), .sc (.bool L.down), .sc (.int .i64 L.records), .sc (.int .i64 L.used), .sc (.int .i64 L.fresh)])⟩, ⟨G, .obj (DiskP d)⟩]) 18 0 Try.func88 rfl 4 ?_
  refine AW.seq ?_
  refine AW.region ?_
  refine AL.ra ?_
  refine AL.nil ?_
  change AW _ _ _ _ _
  refine AW.seq ?_
  refine AW.seq ?_
  refine AW.region ?_
  refine AL.rm ?_
  refine AL.r (rd_peq_bx rfl pt_83 rfl rfl rfl) ?_
  refine AL.nil ?_
  change AW _ _ _ _ _
  refine AW.cond_f rfl ?_
  refine AW.skip ?_
  change AW _ _ _ _ _
  refine AW.seq ?_
  refine AW.seq ?_
  refine AW.region ?_
  refine AL.rm ?_
  refine AL.r (rd_nilc_bx rfl rfl rfl) ?_
  refine AL.r (rd_faddr_bx rfl fo_126_5 rfl rfl ⟨_, _, rfl⟩) ?_
  refine AL.r (rd_load_bx rfl ag_4 rfl rfl (fat_post 3 rfl rfl)) ?_
  refine AL.rm ?_
  refine AL.fk (d := 9) rfl (fun h9 => ?_) (fun h9 => ?_)
  ·skip
   refine AL.n ?_
   refine AL.rf ?_
   refine AL.rf ?_
   refine AL.rf ?_
   refine AL.rf ?_
   refine AL.rf ?_
   refine AL.r (rd_pick_t rfl rfl rfl) ?_
   refine AL.nil ?_
   change AW _ _ _ _ _
   refine AW.cond_t rfl ?_
   refine AW.seq ?_
   refine AW.region ?_
   refine AL.rm ?_
   refine AL.r (rd_nilc_bx rfl rfl rfl) ?_
   refine AL.r (rd_faddr_bx rfl fo_126_5 rfl rfl ⟨_, _, rfl⟩) ?_
   refine AL.op rfl (op_fatstore 3 rfl rfl rfl rfl (Nat.le_of_ble_eq_true rfl) rfl rfl rfl sz_4 ?_)
   refine AL.no ?_
   refine AL.nil ?_
   change AW _ _ _ _ _
   refine AW.seq ?_
   refine AW.region ?_
   refine AL.ra ?_
   refine AL.nil ?_
   change AW _ _ _ _ _
   refine AW.ret ?_
   repeat with_reducible first | refine thenA_ret ?_ | refine inBlockA_ret ?_
   with_reducible first | refine retO_ret ?_ | refine retO_normal ?_
   refine reso1V rfl (ResV.tmp rfl) rfl ?_
   simp_all [VltT]
  ·skip
   refine AL.n ?_
   refine AL.ro (rd_move rfl rfl) ?_
   refine AL.ro (rd_nilc_bx rfl rfl rfl) ?_
   refine AL.ro (rd_faddr_bx rfl fo_126_0 rfl rfl ⟨_, _, rfl⟩) ?_
   refine AL.ro (rd_load_bx rfl ag_25 rfl rfl (fat_pre rfl)) ?_
   refine AL.on rfl rfl rfl (calloV (od_dark d G) [3] ?_)
   rintro y os' ⟨rfl, rfl⟩
   refine AL.noV ?_
   refine AL.r (rd_pick_f rfl rfl rfl) ?_
   refine AL.nil ?_
   change AW _ _ _ _ _
   refine AW.cd rfl (fun h15 => ?_) (fun h15 => ?_)
   ·skip
    refine AW.seq ?_
    refine AW.region ?_
    refine AL.rm ?_
    refine AL.r (rd_nilc_bx rfl rfl rfl) ?_
    refine AL.r (rd_faddr_bx rfl fo_126_5 rfl rfl ⟨_, _, rfl⟩) ?_
    refine AL.op rfl (op_fatstore 3 rfl rfl rfl rfl (Nat.le_of_ble_eq_true rfl) rfl rfl rfl sz_4 ?_)
    refine AL.no ?_
    refine AL.nil ?_
    change AW _ _ _ _ _
    refine AW.seq ?_
    refine AW.region ?_
    refine AL.ra ?_
    refine AL.nil ?_
    change AW _ _ _ _ _
    refine AW.ret ?_
    repeat with_reducible first | refine thenA_ret ?_ | refine inBlockA_ret ?_
    with_reducible first | refine retO_ret ?_ | refine retO_normal ?_
    refine reso1V rfl (ResV.tmp rfl) rfl ?_
    simp_all [VltT]
   ·skip
    refine AW.skip ?_
    change AW _ _ _ _ _
    refine AW.seq ?_
    refine AW.region ?_
    refine AL.ra ?_
    refine AL.nil ?_
    change AW _ _ _ _ _
    refine AW.ret ?_
    repeat with_reducible first | refine thenA_ret ?_ | refine inBlockA_ret ?_
    with_reducible first | refine retO_ret ?_ | refine retO_normal ?_
    refine reso1V rfl (ResV.tmp rfl) rfl ?_
    simp_all [VltT]
theorem vheard_c (c : Int) : ACo Try.prog 89 [.bx 0 gv 0, .sc (.int .i64 c)] (VltT gv gs gl G t V S L d) (fun y os' => y = .sc (.int .i64 c) ∧ os' = VltT gv gs gl G t { V with down := V.down || decide (c = 10) } S L d) := by
  refine ACo.of' (st0 := [⟨gv, .box 126 (fatC [.bx 3 G 0] t [.bx 1 gs 0, .bx 2 gl 0, .sc (.int .i64 V.file), .sc (.bool V.down)])⟩, ⟨gs, .box 119 (fatC [.bx 3 G 0] t [.sc (.int .i64 S.file), .sc (.int .i64 S.counts), .sc (.int .i64 S.epoch), .sl (byA S.bytes), .sc (.bool S.down)])⟩, ⟨gl, .box 111 (fatC [.bx 3 G 0] t [.sc (.int .i64 L.file), .sc (.bool L.down), .sc (.int .i64 L.records), .sc (.int .i64 L.used), .sc (.int .i64 L.fresh)])⟩, ⟨G, .obj (DiskP d)⟩]) 9 0 Try.func89 rfl 4 ?_
  refine AW.seq ?_
  refine AW.region ?_
  refine AL.ra ?_
  refine AL.nil ?_
  change AW _ _ _ _ _
  refine AW.seq ?_
  refine AW.seq ?_
  refine AW.region ?_
  refine AL.rm ?_
  refine AL.r (rd_bin rfl rfl rfl (fun _ => rfl)) ?_
  refine AL.nil ?_
  change AW _ _ _ _ _
  refine AW.cd rfl (fun h6 => ?_) (fun h6 => ?_)
  ·skip
   refine AW.region ?_
   refine AL.rm ?_
   refine AL.r (rd_nilc_bx rfl rfl rfl) ?_
   refine AL.r (rd_faddr_bx rfl fo_126_5 rfl rfl ⟨_, _, rfl⟩) ?_
   refine AL.op rfl (op_fatstore 3 rfl rfl rfl rfl (Nat.le_of_ble_eq_true rfl) rfl rfl rfl sz_4 ?_)
   refine AL.no ?_
   refine AL.nil ?_
   change AW _ _ _ _ _
   refine AW.seq ?_
   refine AW.region ?_
   refine AL.rm ?_
   refine AL.ra ?_
   refine AL.nil ?_
   change AW _ _ _ _ _
   refine AW.ret ?_
   repeat with_reducible first | refine thenA_ret ?_ | refine inBlockA_ret ?_
   with_reducible first | refine retO_ret ?_ | refine retO_normal ?_
   refine reso1V rfl (ResV.tmp rfl) rfl ?_
   simp_all [VltT]
  ·skip
   refine AW.skip ?_
   change AW _ _ _ _ _
   refine AW.seq ?_
   refine AW.region ?_
   refine AL.rm ?_
   refine AL.ra ?_
   refine AL.nil ?_
   change AW _ _ _ _ _
   refine AW.ret ?_
   repeat with_reducible first | refine thenA_ret ?_ | refine inBlockA_ret ?_
   with_reducible first | refine retO_ret ?_ | refine retO_normal ?_
   refine reso1V rfl (ResV.tmp rfl) rfl ?_
   simp_all [VltT]
theorem vepoch_c : ACo Try.prog 60 [.bx 0 gv 0] (VltT gv gs gl G t V S L d) (fun y os' => y = .sc (.int .i64 S.epoch) ∧ os' = VltT gv gs gl G t V S L d) := by
  refine ACo.of' (st0 := [⟨gv, .box 126 (fatC [.bx 3 G 0] t [.bx 1 gs 0, .bx 2 gl 0, .sc (.int .i64 V.file), .sc (.bool V.down)])⟩, ⟨gs, .box 119 (fatC [.bx 3 G 0] t [.sc (.int .i64 S.file), .sc (.int .i64 S.counts), .sc (.int .i64 S.epoch), .sl (byA S.bytes), .sc (.bool S.down)])⟩, ⟨gl, .box 111 (fatC [.bx 3 G 0] t [.sc (.int .i64 L.file), .sc (.bool L.down), .sc (.int .i64 L.records), .sc (.int .i64 L.used), .sc (.int .i64 L.fresh)])⟩, ⟨G, .obj (DiskP d)⟩]) 9 0 Try.func60 rfl 4 ?_
  refine AW.seq ?_
  refine AW.region ?_
  refine AL.ra ?_
  refine AL.nil ?_
  change AW _ _ _ _ _
  refine AW.seq ?_
  refine AW.seq ?_
  refine AW.region ?_
  refine AL.rm ?_
  refine AL.r (rd_peq_bx rfl pt_83 rfl rfl rfl) ?_
  refine AL.nil ?_
  change AW _ _ _ _ _
  refine AW.cond_f rfl ?_
  refine AW.skip ?_
  change AW _ _ _ _ _
  refine AW.seq ?_
  refine AW.region ?_
  refine AL.rm ?_
  refine AL.r (rd_nilc_bx rfl rfl rfl) ?_
  refine AL.r (rd_faddr_bx rfl fo_126_2 rfl rfl ⟨_, _, rfl⟩) ?_
  refine AL.r (rd_load_bx rfl ag_70 rfl rfl (fat_post 0 rfl rfl)) ?_
  refine AL.op rfl (calloV (sepoch_c gs G t S d) [1, 3] ?_)
  rintro y os' ⟨rfl, rfl⟩
  refine AL.noV ?_
  refine AL.ra ?_
  refine AL.nil ?_
  change AW _ _ _ _ _
  refine AW.ret ?_
  repeat with_reducible first | refine thenA_ret ?_ | refine inBlockA_ret ?_
  with_reducible first | refine retO_ret ?_ | refine retO_normal ?_
  refine reso1V rfl (ResV.tmp rfl) rfl ?_
  exact ⟨rfl, rfl⟩
theorem vbytes_c (hb : S.bytes.length ≤ 1099511627776) : ACo Try.prog 61 [.bx 0 gv 0] (VltT gv gs gl G t V S L d) (fun y os' => y = .sl (byA S.bytes) ∧ os' = VltT gv gs gl G t V S L d) := by
  refine ACo.of' (st0 := [⟨gv, .box 126 (fatC [.bx 3 G 0] t [.bx 1 gs 0, .bx 2 gl 0, .sc (.int .i64 V.file), .sc (.bool V.down)])⟩, ⟨gs, .box 119 (fatC [.bx 3 G 0] t [.sc (.int .i64 S.file), .sc (.int .i64 S.counts), .sc (.int .i64 S.epoch), .sl (byA S.bytes), .sc (.bool S.down)])⟩, ⟨gl, .box 111 (fatC [.bx 3 G 0] t [.sc (.int .i64 L.file), .sc (.bool L.down), .sc (.int .i64 L.records), .sc (.int .i64 L.used), .sc (.int .i64 L.fresh)])⟩, ⟨G, .obj (DiskP d)⟩]) 9 0 Try.func61 rfl 4 ?_
  refine AW.seq ?_
  refine AW.region ?_
  refine AL.ra ?_
  refine AL.nil ?_
  change AW _ _ _ _ _
  refine AW.seq ?_
  refine AW.seq ?_
  refine AW.region ?_
  refine AL.rm ?_
  refine AL.r (rd_peq_bx rfl pt_83 rfl rfl rfl) ?_
  refine AL.nil ?_
  change AW _ _ _ _ _
  refine AW.cond_f rfl ?_
  refine AW.skip ?_
  change AW _ _ _ _ _
  refine AW.seq ?_
  refine AW.region ?_
  refine AL.rm ?_
  refine AL.r (rd_nilc_bx rfl rfl rfl) ?_
  refine AL.r (rd_faddr_bx rfl fo_126_2 rfl rfl ⟨_, _, rfl⟩) ?_
  refine AL.r (rd_load_bx rfl ag_70 rfl rfl (fat_post 0 rfl rfl)) ?_
  refine AL.op rfl (calloV (sbytes_c gs G t S d hb) [1, 3] ?_)
  rintro y os' ⟨rfl, rfl⟩
  refine AL.noV ?_
  refine AL.ra ?_
  refine AL.nil ?_
  change AW _ _ _ _ _
  refine AW.ret ?_
  repeat with_reducible first | refine thenA_ret ?_ | refine inBlockA_ret ?_
  with_reducible first | refine retO_ret ?_ | refine retO_normal ?_
  refine reso1V rfl (ResV.tmp rfl) rfl ?_
  exact ⟨rfl, rfl⟩
theorem vrecords_c : ACo Try.prog 66 [.bx 0 gv 0] (VltT gv gs gl G t V S L d) (fun y os' => y = .sc (.int .i64 L.records) ∧ os' = VltT gv gs gl G t V S L d) := by
  refine ACo.of' (st0 := [⟨gv, .box 126 (fatC [.bx 3 G 0] t [.bx 1 gs 0, .bx 2 gl 0, .sc (.int .i64 V.file), .sc (.bool V.down)])⟩, ⟨gs, .box 119 (fatC [.bx 3 G 0] t [.sc (.int .i64 S.file), .sc (.int .i64 S.counts), .sc (.int .i64 S.epoch), .sl (byA S.bytes), .sc (.bool S.down)])⟩, ⟨gl, .box 111 (fatC [.bx 3 G 0] t [.sc (.int .i64 L.file), .sc (.bool L.down), .sc (.int .i64 L.records), .sc (.int .i64 L.used), .sc (.int .i64 L.fresh)])⟩, ⟨G, .obj (DiskP d)⟩]) 9 0 Try.func66 rfl 4 ?_
  refine AW.seq ?_
  refine AW.region ?_
  refine AL.ra ?_
  refine AL.nil ?_
  change AW _ _ _ _ _
  refine AW.seq ?_
  refine AW.seq ?_
  refine AW.region ?_
  refine AL.rm ?_
  refine AL.r (rd_peq_bx rfl pt_83 rfl rfl rfl) ?_
  refine AL.nil ?_
  change AW _ _ _ _ _
  refine AW.cond_f rfl ?_
  refine AW.skip ?_
  change AW _ _ _ _ _
  refine AW.seq ?_
  refine AW.region ?_
  refine AL.rm ?_
  refine AL.r (rd_nilc_bx rfl rfl rfl) ?_
  refine AL.r (rd_faddr_bx rfl fo_126_3 rfl rfl ⟨_, _, rfl⟩) ?_
  refine AL.r (rd_load_bx rfl ag_55 rfl rfl (fat_post 1 rfl rfl)) ?_
  refine AL.op rfl (calloV (lrecords_c gl G t L d) [2, 3] ?_)
  rintro y os' ⟨rfl, rfl⟩
  refine AL.noV ?_
  refine AL.ra ?_
  refine AL.nil ?_
  change AW _ _ _ _ _
  refine AW.ret ?_
  repeat with_reducible first | refine thenA_ret ?_ | refine inBlockA_ret ?_
  with_reducible first | refine retO_ret ?_ | refine retO_normal ?_
  refine reso1V rfl (ResV.tmp rfl) rfl ?_
  exact ⟨rfl, rfl⟩
end
end Go.Proofs.Ytgjpeldgjpgbcaa
