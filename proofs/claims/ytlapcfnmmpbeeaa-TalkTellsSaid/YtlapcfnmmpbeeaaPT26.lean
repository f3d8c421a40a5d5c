/- A part of a proof. -/
import Derived.Test.YtlapcfnmmpbeeaaPT25
set_option linter.unusedSimpArgs false
set_option linter.unusedVariables false
namespace Go.Proofs.Ytlapcfnmmpbeeaa
set_option maxRecDepth 100000
set_option maxRecDepth 100000
open Go.RowKit
structure RdrD where
  b : List UInt8
  f : Int
  at_ : Int
  bad : Bool
def RdrT (g : Nat) (r : RdrD) : List TK := [⟨g, .box 101 [.sl (byA r.b), .sc (.int .i64 r.f), .sc (.int .i64 r.at_), .sc (.bool r.bad)]⟩]
section
variable {P : Program} {o : Oper} {t : List AV} {st : List TK} {ops : Array Oper} {l : List Oper} {fuel : Nat} {listed : Array Bool}
theorem calloR {xs : Array Operand} {Ts : Array TypeId} {K : AV → List TK → Prop} {f : FuncId} {ys : List AV} {os : List TK} {R : AV → List TK → Prop} (hC : ACo P f ys os R) (ks : List Nat) (h : ∀ y os', R y os' → K (ren2 ks y) (putT ks st ks os')) (ho : o.op = .call { callee := .value (.func f), args := xs, argTypes := Ts } := by rfl) (hok : callOk P f = true := by kernel_rfl) (hnd : ks.Nodup := by decide) (hsub : subT st ks (os.map (renT ks)) := by simp only [RdrT, List.map_cons, List.map_nil, renT, renC_owM, renC_box, renC_own, renC_nown, renC_obj, renC_off, ren0, List.getD_cons_zero, List.getD_cons_succ]; repeat (first | exact trivial | refine ⟨rfl, ?_⟩)) (hargs : xs.toList.map (fun x => nzA (evA t x)) = ys.map (ren1 ks) := by rfl) (hoa : ys.all (ok1 os) = true := by simp only [RdrT, cleanS, cle_owM, cle_own, cle_nown, cle_obj, cle_off, cle_box, okC, liveA, List.take_succ_cons, List.take_zero, List.all_cons, List.all_nil, List.getElem?_cons_zero, List.getElem?_cons_succ, isO_owM, isO_own, isO_nown, TC.isB, beq_self_eq_true, Bool.and_self, Bool.and_true, ok1, ok2, List.map_cons, List.map_nil]) (hcl : cleanS os = true := by simp only [RdrT, cleanS, cle_owM, cle_own, cle_nown, cle_obj, cle_off, cle_box, okC, liveA, List.take_succ_cons, List.take_zero, List.all_cons, List.all_nil, List.getElem?_cons_zero, List.getElem?_cons_succ, isO_owM, isO_own, isO_nown, TC.isB, beq_self_eq_true, Bool.and_self, Bool.and_true, ok1, ok2, List.map_cons, List.map_nil]) : AOp P o t st K := op_callo hC ho hok ks hnd hsub hargs hoa hcl h
theorem centrR {K : AV → List TK → Prop} {f : FuncId} {us ys : List AV} {os : List TK} {R : AV → List TK → Prop} (hC : ACo P f ys os R) (hE : Ent P o t st f us) (ks : List Nat) (h : ∀ y os', R y os' → K (ren2 ks y) (putT ks st ks os')) (hnd : ks.Nodup := by decide) (hsub : subT st ks (os.map (renT ks)) := by simp only [RdrT, List.map_cons, List.map_nil, renT, renC_owM, renC_box, renC_own, renC_nown, renC_obj, renC_off, ren0, List.getD_cons_zero, List.getD_cons_succ]; repeat (first | exact trivial | refine ⟨rfl, ?_⟩)) (hargs : us.map nzA = ys.map (ren1 ks) := by rfl) (hoa : ys.all (ok1 os) = true := by simp only [RdrT, cleanS, cle_owM, cle_own, cle_nown, cle_obj, cle_off, cle_box, okC, liveA, List.take_succ_cons, List.take_zero, List.all_cons, List.all_nil, List.getElem?_cons_zero, List.getElem?_cons_succ, isO_owM, isO_own, isO_nown, TC.isB, beq_self_eq_true, Bool.and_self, Bool.and_true, ok1, ok2, List.map_cons, List.map_nil]) (hcl : cleanS os = true := by simp only [RdrT, cleanS, cle_owM, cle_own, cle_nown, cle_obj, cle_off, cle_box, okC, liveA, List.take_succ_cons, List.take_zero, List.all_cons, List.all_nil, List.getElem?_cons_zero, List.getElem?_cons_succ, isO_owM, isO_own, isO_nown, TC.isB, beq_self_eq_true, Bool.and_self, Bool.and_true, ok1, ok2, List.map_cons, List.map_nil]) : AOp P o t st K := op_enter hC hE ks hnd hsub hargs hoa hcl h
theorem AL.noR {K : List AV → List TK → Prop} {t' : List AV} {st' : List TK} (h : AL P ops K l t' st') (ht : t = t' := by (try simp only [RdrT, putA, evA, List.getD_cons_zero, List.getD_cons_succ, List.set_cons_zero, List.set_cons_succ, List.length_map, KR, splA, List.map_cons, List.map_nil, List.length_append, List.length_cons, List.length_nil, List.drop_zero, csS_len, csS_take, csS_drop, csS_app, byA_len, byA_take, byA_drop, byA_app, ← List.map_take, ← List.map_drop, ← List.map_append, List.take_succ_cons, List.take_zero, List.drop_succ_cons, List.cons_append, List.nil_append, Nat.zero_add, Nat.reduceAdd, Nat.reduceMul, Nat.add_zero, Nat.mul_one, putT, renT, renC_owM, renC_box, renC_own, renC_nown, renC_obj, renC_off, ren2, ren1, ren0, ok1, ok2]); (try rfl)) (hs : st = st' := by (try simp only [RdrT, putA, evA, List.getD_cons_zero, List.getD_cons_succ, List.set_cons_zero, List.set_cons_succ, List.length_map, KR, splA, List.map_cons, List.map_nil, List.length_append, List.length_cons, List.length_nil, List.drop_zero, csS_len, csS_take, csS_drop, csS_app, byA_len, byA_take, byA_drop, byA_app, ← List.map_take, ← List.map_drop, ← List.map_append, List.take_succ_cons, List.take_zero, List.drop_succ_cons, List.cons_append, List.nil_append, Nat.zero_add, Nat.reduceAdd, Nat.reduceMul, Nat.add_zero, Nat.mul_one, putT, renT, renC_owM, renC_box, renC_own, renC_nown, renC_obj, renC_off, ren2, ren1, ren0, ok1, ok2]); (try rfl)) : AL P ops K l t st := by subst ht hs; exact h
theorem ADB.noR {K : List AV → List TK → Prop} {t' : List AV} {st' : List TK} (h : ADB P l K fuel listed t' st') (ht : t = t' := by (try simp only [RdrT, putA, evA, List.getD_cons_zero, List.getD_cons_succ, List.set_cons_zero, List.set_cons_succ, List.length_map, KR, splA, List.map_cons, List.map_nil, List.length_append, List.length_cons, List.length_nil, List.drop_zero, csS_len, csS_take, csS_drop, csS_app, byA_len, byA_take, byA_drop, byA_app, ← List.map_take, ← List.map_drop, ← List.map_append, List.take_succ_cons, List.take_zero, List.drop_succ_cons, List.cons_append, List.nil_append, Nat.zero_add, Nat.reduceAdd, Nat.reduceMul, Nat.add_zero, Nat.mul_one, putT, renT, renC_owM, renC_box, renC_own, renC_nown, renC_obj, renC_off, ren2, ren1, ren0, ok1, ok2]); (try rfl)) (hs : st = st' := by (try simp only [RdrT, putA, evA, List.getD_cons_zero, List.getD_cons_succ, List.set_cons_zero, List.set_cons_succ, List.length_map, KR, splA, List.map_cons, List.map_nil, List.length_append, List.length_cons, List.length_nil, List.drop_zero, csS_len, csS_take, csS_drop, csS_app, byA_len, byA_take, byA_drop, byA_app, ← List.map_take, ← List.map_drop, ← List.map_append, List.take_succ_cons, List.take_zero, List.drop_succ_cons, List.cons_append, List.nil_append, Nat.zero_add, Nat.reduceAdd, Nat.reduceMul, Nat.add_zero, Nat.mul_one, putT, renT, renC_owM, renC_box, renC_own, renC_nown, renC_obj, renC_off, ren2, ren1, ren0, ok1, ok2]); (try rfl)) : ADB P l K fuel listed t st := by subst ht hs; exact h
theorem reso0R {fn : Func} {n : Nat} {R : AV → List TK → Prop} (hr : fn.results = #[]) (h : R (.tu []) (st.take n)) (hn : n ≤ st.length := by exact Nat.le_of_ble_eq_true rfl) (hc : cleanS (st.take n) = true := by simp only [RdrT, cleanS, cle_owM, cle_own, cle_nown, cle_obj, cle_off, cle_box, okC, liveA, List.take_succ_cons, List.take_zero, List.all_cons, List.all_nil, List.getElem?_cons_zero, List.getElem?_cons_succ, isO_owM, isO_own, isO_nown, TC.isB, beq_self_eq_true, Bool.and_self, Bool.and_true, ok1, ok2, List.map_cons, List.map_nil]) : ResO P fn n R t st := reso0 hr hn hc h
theorem reso1R {fn : Func} {n : Nat} {R : AV → List TK → Prop} {r1 : ResultVar} {z1 y1 : AV} (hr : fn.results = #[r1]) (h1 : ResV P t st r1 z1) (hz1 : resO1 n st z1 = some y1) (h : R (y1) (st.take n)) (hn : n ≤ st.length := by exact Nat.le_of_ble_eq_true rfl) (hc : cleanS (st.take n) = true := by simp only [RdrT, cleanS, cle_owM, cle_own, cle_nown, cle_obj, cle_off, cle_box, okC, liveA, List.take_succ_cons, List.take_zero, List.all_cons, List.all_nil, List.getElem?_cons_zero, List.getElem?_cons_succ, isO_owM, isO_own, isO_nown, TC.isB, beq_self_eq_true, Bool.and_self, Bool.and_true, ok1, ok2, List.map_cons, List.map_nil]) (hok : ok2 (st.take n) (y1) = true := by simp only [RdrT, cleanS, cle_owM, cle_own, cle_nown, cle_obj, cle_off, cle_box, okC, liveA, List.take_succ_cons, List.take_zero, List.all_cons, List.all_nil, List.getElem?_cons_zero, List.getElem?_cons_succ, isO_owM, isO_own, isO_nown, TC.isB, beq_self_eq_true, Bool.and_self, Bool.and_true, ok1, ok2, List.map_cons, List.map_nil]) : ResO P fn n R t st := reso1 hr hn hc h1 hz1 hok h
end
structure RdrD.Ok (r : RdrD) : Prop where
  len : r.b.length ≤ 1099511627776
  lo : 0 ≤ r.at_
  hi : r.at_ ≤ r.b.length
def badP (r : RdrD) : Bool := r.bad || !okF r.f
def spoilP (r : RdrD) : RdrD := { r with bad := true }
def leftP (r : RdrD) : Int := if badP r then 0 else r.b.length - r.at_
def numP (r : RdrD) : Int × RdrD := if badP r then (0, r) else if (getN r.b r.at_ r.f).2.2 = 0 then ((getN r.b r.at_ r.f).1, { r with at_ := (getN r.b r.at_ r.f).2.1 }) else (0, spoilP r)
def countP (r : RdrD) (most : Int) : Int × RdrD := if (numP r).1 < 0 ∨ most < (numP r).1 then (0, spoilP (numP r).2) else numP r
def textR (r : RdrD) (most : Int) : RdrD := if (numP r).1 < 0 ∨ most < (numP r).1 ∨ leftP (numP r).2 < (numP r).1 then spoilP (numP r).2 else (numP r).2
def rtextP (r : RdrD) (most : Int) : Bytes × RdrD := if badP (textR r most) then ([], textR r most) else (((textR r most).b.take ((textR r most).at_ + (numP r).1).toNat).drop (textR r most).at_.toNat, { textR r most with at_ := (textR r most).at_ + (numP r).1 })
def rflagP (r : RdrD) : Bool × RdrD := if leftP r < 1 then (false, spoilP r) else match r.b[r.at_.toNat]? with | none => (false, spoilP r) | some c => if 1 < c.toNat then (false, spoilP r) else (c.toNat == 1, { r with at_ := r.at_ + 1 })
def rtagP (r : RdrD) : TagD × RdrD := if badP (numP (numP r).2).2 then (⟨0, 0⟩, (numP (numP r).2).2) else (⟨(numP r).1, (numP (numP r).2).1⟩, (numP (numP r).2).2)
def rrefP (r : RdrD) : RefD × RdrD := if badP (rtextP (rtextP (numP r).2 12).2 12).2 then (⟨0, [], []⟩, (rtextP (rtextP (numP r).2 12).2 12).2) else (⟨(numP r).1, (rtextP (numP r).2 12).1, (rtextP (rtextP (numP r).2 12).2 12).1⟩, (rtextP (rtextP (numP r).2 12).2 12).2)
def endP (r : RdrD) : Int := if badP r = true ∨ 0 < leftP r then 8 else 0
theorem getN_ok {l : List UInt8} {at_ f : Int} (h : (getN l at_ f).2.2 = 0) : 0 ≤ at_ ∧ at_ < (getN l at_ f).2.1 ∧ (getN l at_ f).2.1 ≤ l.length ∧ i64R (getN l at_ f).1 := by
  unfold getN at h ⊢
  split at h
  · exact absurd h (by decide)
  rename_i h0
  have h1 : 0 ≤ at_ ∧ at_ ≤ l.length := by omega
  rw [if_neg h0]
  split at h
  · rename_i h2
    rw [if_pos h2]
    unfold fixG at h ⊢
    split at h
    · exact absurd h (by decide)
    rename_i h3
    rw [if_neg h3]
    rw [List.length_drop] at h3
    have hb := i64Z_bd (u := num ((l.drop at_.toNat).take 8)) (by
      have := num_lt ((l.drop at_.toNat).take 8)
      rw [List.length_take, List.length_drop, Nat.min_eq_left (by omega)] at this
      exact this)
    exact ⟨h1.1, by simp only []; omega, by simp only []; omega, hb⟩
  rename_i h2
  rw [if_neg h2]
  unfold varG at h ⊢
  cases hg : gv (l.drop at_.toNat) 0 0 with
  | none => rw [hg] at h; exact absurd (show (8 : Int) = 0 from h) (by decide)
  | some p =>
    obtain ⟨u, s⟩ := p
    obtain ⟨g1, g2, r', g3⟩ := gv0_got hg
    have hp := vary_pos 9 u
    have hl : (l.drop at_.toNat).length = (vary 9 u).length + r'.length := by rw [g3, List.length_append]
    rw [List.length_drop] at hl
    exact ⟨h1.1, by simp only []; omega, by simp only []; omega, backZ_bd g1⟩
theorem numP_ok {r : RdrD} (h : r.Ok) : (numP r).2.Ok ∧ (numP r).2.b = r.b ∧ (numP r).2.f = r.f ∧ i64R (numP r).1 := by
  unfold numP
  split
  · exact ⟨h, rfl, rfl, by unfold i64R; simp⟩
  split
  · rename_i h2
    obtain ⟨a, b, c, d⟩ := getN_ok h2
    exact ⟨⟨h.len, by simp only []; omega, c⟩, rfl, rfl, d⟩
  exact ⟨⟨h.len, h.lo, h.hi⟩, rfl, rfl, by unfold i64R; simp⟩
section
variable (g : Nat) (r : RdrD)
theorem rbad_c : ACo Try.prog 53 [.bx 0 g 0] (RdrT g r) (fun y os' => y = .sc (.bool (badP r)) ∧ os' = RdrT g r) := by
  refine ACo.of' (st0 := [⟨g, .box 101 [.sl (byA r.b), .sc (.int .i64 r.f), .sc (.int .i64 r.at_), .sc (.bool r.bad)]⟩]) 18 0 Try.func53 rfl 1 ?_; refine AW.g (AL.ra ?_); refine AL.nil (AW.g (AL.rm ?_)); refine AL.r (rd_peq_bx rfl pt_72 rfl rfl rfl) ?_; refine AL.rm ?_; refine AL.ro (rd_move rfl rfl) ?_; refine AL.ro (rd_nilc_bx rfl rfl rfl) ?_; refine AL.ro (qa fo_101_3) ?_; refine AL.ro (ql ag_4) ?_; refine AL.r qf ?_; refine AL.rm ?_; refine AL.fk (d := 11) rfl (fun h11 => ?_) (fun h11 => ?_)
  ·refine AL.n ?_; (iterate 6 refine AL.rf ?_); refine AL.r qt ?_; refine AL.ra ?_; refine AL.nil (AW.ret ?_)
   repeat with_reducible first | refine thenA_ret ?_ | refine inBlockA_ret ?_
   with_reducible first | refine retO_ret ?_ | refine retO_normal ?_
   refine reso1R rfl (ResV.tmp rfl) rfl ?_; refine ⟨?_, rfl⟩; simp_all [badP, okF]
  refine AL.n ?_; refine AL.ro (rd_move rfl rfl) ?_; refine AL.ro (rd_nilc_bx rfl rfl rfl) ?_; refine AL.ro (qa fo_101_1) ?_; refine AL.ro (ql ag_3) ?_; refine AL.on rfl rfl rfl (AOpB.op (op_call (cright_c r.f) rfl (by kernel_rfl) rfl (none) ?_)); rintro r rfl; refine AL.no ?_; refine AL.ro qu ?_; refine AL.r qf ?_; refine AL.ra ?_; refine AL.nil (AW.ret ?_)
  repeat with_reducible first | refine thenA_ret ?_ | refine inBlockA_ret ?_
  with_reducible first | refine retO_ret ?_ | refine retO_normal ?_
  refine reso1R rfl (ResV.tmp rfl) rfl ?_; refine ⟨?_, rfl⟩; simp_all [badP, okF]
theorem rspoil_c : ACo Try.prog 56 [.bx 0 g 0] (RdrT g r) (fun y os' => y = .tu [] ∧ os' = RdrT g (spoilP r)) := by
  refine ACo.of' (st0 := [⟨g, .box 101 [.sl (byA r.b), .sc (.int .i64 r.f), .sc (.int .i64 r.at_), .sc (.bool r.bad)]⟩]) 6 0 Try.func56 rfl 1 ?_; refine AW.g (AL.rm ?_); refine AL.r (rd_pne_bx rfl pt_72 rfl rfl rfl) ?_; refine AL.nil (AW.cond_t rfl (AW.region (AL.rm ?_))); refine AL.r (rd_nilc_bx rfl rfl rfl) ?_; refine AL.r (qa fo_101_3) ?_; refine AL.oq (oS sz_4 ?_); refine AL.no ?_; refine AL.nil ?_
  repeat with_reducible first | refine thenA_ret ?_ | refine inBlockA_ret ?_
  with_reducible first | refine retO_ret ?_ | refine retO_normal ?_
  refine reso0R rfl  ?_; exact ⟨rfl, rfl⟩
theorem rleft_c (h : r.Ok) : ACo Try.prog 60 [.bx 0 g 0] (RdrT g r) (fun y os' => y = .sc (.int .i64 (leftP r)) ∧ os' = RdrT g r) := by
  have hl := h.len; have h1 := h.lo; have h2 := h.hi; have hb := byA_len r.b
  refine ACo.of' (st0 := [⟨g, .box 101 [.sl (byA r.b), .sc (.int .i64 r.f), .sc (.int .i64 r.at_), .sc (.bool r.bad)]⟩]) 14 0 Try.func60 rfl 1 ?_; refine AW.g (AL.ra ?_); refine AL.nil (AW.seq (AW.g (AL.rm ?_))); refine AL.oq (calloR (rbad_c g r) [0] ?_); rintro y os' ⟨rfl, rfl⟩; refine AL.noR ?_; refine AL.nil (AW.cd rfl (fun h4 => ?_) (fun h4 => ?_))
  ·refine AW.g (AL.ra ?_); refine AL.nil (AW.ret ?_)
   repeat with_reducible first | refine thenA_ret ?_ | refine inBlockA_ret ?_
   with_reducible first | refine retO_ret ?_ | refine retO_normal ?_
   refine reso1R rfl (ResV.tmp rfl) rfl ?_; refine ⟨?_, rfl⟩; simp_all [leftP]
  refine AW.skip (AW.seq (AW.draw (by kernel_rfl) ?_)); refine AD.r 0 rfl (rd_move rfl rfl) rfl ?_; refine AD.r 1 rfl (rd_nilc_bx rfl rfl rfl) rfl ?_; refine AD.r 2 rfl (qa fo_101_0) rfl ?_; refine AD.r 3 rfl (ql ag_35) rfl ?_; refine AD.r 4 rfl (lN el_35) rfl ?_; refine AD.r 5 rfl (rd_move rfl rfl) rfl ?_; refine AD.r 6 rfl (rd_nilc_bx rfl rfl rfl) rfl ?_; refine AD.r 7 rfl (qa fo_101_2) rfl ?_; refine AD.r 8 rfl (ql ag_3) rfl ?_; refine AD.r 9 rfl (rd_arith_sub rfl rfl rfl (by first | exact IntWalk.i64_in _ (by omega) | rfl)) rfl ?_; refine AD.r 10 rfl (rd_assign rfl rfl) rfl ?_; refine AD.done (by kernel_rfl) ?_; change AW _ _ _ _ _; refine AW.ret ?_
  repeat with_reducible first | refine thenA_ret ?_ | refine inBlockA_ret ?_
  with_reducible first | refine retO_ret ?_ | refine retO_normal ?_
  refine reso1R rfl (ResV.tmp rfl) rfl ?_; refine ⟨?_, rfl⟩; simp_all [leftP]
theorem rend_c (h : r.Ok) : ACo Try.prog 33 [.bx 0 g 0] (RdrT g r) (fun y os' => y = .sc (.int .i64 (endP r)) ∧ os' = RdrT g r) := by
  refine ACo.of' (st0 := [⟨g, .box 101 [.sl (byA r.b), .sc (.int .i64 r.f), .sc (.int .i64 r.at_), .sc (.bool r.bad)]⟩]) 9 0 Try.func33 rfl 1 ?_; refine AW.g (AL.ra ?_); refine AL.nil (AW.seq (AW.g (AL.rm ?_))); refine AL.oq (calloR (rbad_c g r) [0] ?_); rintro y os' ⟨rfl, rfl⟩; refine AL.noR ?_; refine AL.rm ?_; refine AL.fk (d := 5) rfl (fun h5 => ?_) (fun h5 => ?_)
  ·refine AL.n ?_; (iterate 3 refine AL.rf ?_); refine AL.r qt ?_; refine AL.nil (AW.cond_t rfl (AW.g (AL.ra ?_))); refine AL.nil (AW.ret ?_)
   repeat with_reducible first | refine thenA_ret ?_ | refine inBlockA_ret ?_
   with_reducible first | refine retO_ret ?_ | refine retO_normal ?_
   refine reso1R rfl (ResV.tmp rfl) rfl ?_; refine ⟨?_, rfl⟩; simp_all [endP]
  refine AL.n ?_; refine AL.ro (rd_move rfl rfl) ?_; refine AL.on rfl rfl rfl (calloR (rleft_c g r h) [0] ?_); rintro y os' ⟨rfl, rfl⟩; refine AL.noR ?_; refine AL.ro qb ?_; refine AL.r qf ?_; refine AL.nil (AW.cd rfl (fun h9 => ?_) (fun h9 => ?_))
  ·refine AW.g (AL.ra ?_); refine AL.nil (AW.ret ?_)
   repeat with_reducible first | refine thenA_ret ?_ | refine inBlockA_ret ?_
   with_reducible first | refine retO_ret ?_ | refine retO_normal ?_
   refine reso1R rfl (ResV.tmp rfl) rfl ?_; refine ⟨?_, rfl⟩; simp_all [endP]
  refine AW.skip (AW.g (AL.ra ?_)); refine AL.nil (AW.ret ?_)
  repeat with_reducible first | refine thenA_ret ?_ | refine inBlockA_ret ?_
  with_reducible first | refine retO_ret ?_ | refine retO_normal ?_
  refine reso1R rfl (ResV.tmp rfl) rfl ?_; refine ⟨?_, rfl⟩; simp_all [endP]
theorem rnum_c (h : r.Ok) : ACo Try.prog 52 [.bx 0 g 0] (RdrT g r) (fun y os' => y = .sc (.int .i64 (numP r).1) ∧ os' = RdrT g (numP r).2) := by
  have hl := h.len
  refine ACo.of' (st0 := [⟨g, .box 101 [.sl (byA r.b), .sc (.int .i64 r.f), .sc (.int .i64 r.at_), .sc (.bool r.bad)]⟩]) 33 0 Try.func52 rfl 1 ?_; refine AW.g (AL.ra ?_); refine AL.nil (AW.seq (AW.g (AL.rm ?_))); refine AL.oq (calloR (rbad_c g r) [0] ?_); rintro y os' ⟨rfl, rfl⟩; refine AL.noR ?_; refine AL.nil (AW.cd rfl (fun h7 => ?_) (fun h7 => ?_))
  ·refine AW.g (AL.ra ?_); refine AL.nil (AW.ret ?_)
   repeat with_reducible first | refine thenA_ret ?_ | refine inBlockA_ret ?_
   with_reducible first | refine retO_ret ?_ | refine retO_normal ?_
   refine reso1R rfl (ResV.tmp rfl) rfl ?_; simp_all [numP, RdrT, spoilP]
  refine AW.skip (AW.seq (AW.draw (by kernel_rfl) ?_)); refine AD.r 0 rfl (rd_move rfl rfl) rfl ?_; refine AD.r 1 rfl (rd_nilc_bx rfl rfl rfl) rfl ?_; refine AD.r 2 rfl (qa fo_101_0) rfl ?_; refine AD.r 3 rfl (ql ag_35) rfl ?_; refine AD.r 4 rfl (rd_move rfl rfl) rfl ?_; refine AD.r 5 rfl (rd_nilc_bx rfl rfl rfl) rfl ?_; refine AD.r 6 rfl (qa fo_101_2) rfl ?_; refine AD.r 7 rfl (ql ag_3) rfl ?_; refine AD.r 8 rfl (rd_move rfl rfl) rfl ?_; refine AD.r 9 rfl (rd_nilc_bx rfl rfl rfl) rfl ?_; refine AD.r 10 rfl (qa fo_101_1) rfl ?_; refine AD.r 11 rfl (ql ag_3) rfl ?_; refine AD.move 12 rfl (by kernel_rfl) rfl (op_call (cget_c r.b r.at_ r.f (by omega)) rfl (by kernel_rfl) rfl (none) ?_); rintro r rfl; refine AD.n ?_; refine AD.r 13 rfl (rd_move rfl rfl) rfl ?_; refine AD.r 14 rfl qe rfl ?_; refine AD.r 15 rfl qe rfl ?_; refine AD.r 16 rfl qe rfl ?_; refine AD.r 17 rfl (rd_assign rfl rfl) rfl ?_; refine AD.r 18 rfl (rd_assign rfl rfl) rfl ?_; refine AD.r 19 rfl (rd_assign rfl rfl) rfl ?_; refine AD.done (by kernel_rfl) ?_; change AW _ _ _ _ _; refine AW.seq (AW.g (AL.rm ?_)); refine AL.r qb ?_; refine AL.nil (AW.cd rfl (fun h26 => ?_) (fun h26 => ?_))
  ·refine AW.g (AL.rm ?_); refine AL.oq (calloR (rspoil_c g r) [0] ?_); rintro y os' ⟨rfl, rfl⟩; refine AL.noR ?_; refine AL.nil (AW.g (AL.ra ?_)); refine AL.nil (AW.ret ?_)
   repeat with_reducible first | refine thenA_ret ?_ | refine inBlockA_ret ?_
   with_reducible first | refine retO_ret ?_ | refine retO_normal ?_
   refine reso1R rfl (ResV.tmp rfl) rfl ?_; simp_all [numP, RdrT, spoilP]
  refine AW.skip (AW.g ?_); (iterate 2 refine AL.rm ?_); refine AL.r (rd_nilc_bx rfl rfl rfl) ?_; refine AL.r (qa fo_101_2) ?_; refine AL.oq (oS sz_3 ?_); refine AL.no ?_; refine AL.nil (AW.g (AL.rm ?_)); refine AL.ra ?_; refine AL.nil (AW.ret ?_)
  repeat with_reducible first | refine thenA_ret ?_ | refine inBlockA_ret ?_
  with_reducible first | refine retO_ret ?_ | refine retO_normal ?_
  refine reso1R rfl (ResV.tmp rfl) rfl ?_; simp_all [numP, RdrT, spoilP]
theorem rcount_c (h : r.Ok) (most : Int) : ACo Try.prog 54 [.bx 0 g 0, .sc (.int .i64 most)] (RdrT g r) (fun y os' => y = .sc (.int .i64 (countP r most).1) ∧ os' = RdrT g (countP r most).2) := by
  have hn := (numP_ok h).2.2.2
  refine ACo.of' (st0 := [⟨g, .box 101 [.sl (byA r.b), .sc (.int .i64 r.f), .sc (.int .i64 r.at_), .sc (.bool r.bad)]⟩]) 16 0 Try.func54 rfl 1 ?_; refine AW.g (AL.ra ?_); refine AL.nil (AW.g (AL.rm ?_)); refine AL.oq (calloR (rnum_c g r h) [0] ?_); rintro y os' ⟨rfl, rfl⟩; refine AL.noR ?_; refine AL.ra ?_; refine AL.nil (AW.seq (AW.g (AL.rm ?_))); refine AL.r qb ?_; refine AL.rm ?_; refine AL.fk (d := 10) rfl (fun h10 => ?_) (fun h10 => ?_)
  ·refine AL.n ?_; (iterate 3 refine AL.rf ?_); refine AL.r qt ?_; refine AL.nil (AW.cond_t rfl (AW.g (AL.rm ?_))); refine AL.oq (calloR (rspoil_c g (numP r).2) [0] ?_); rintro y os' ⟨rfl, rfl⟩; refine AL.noR ?_; refine AL.nil (AW.g (AL.ra ?_)); refine AL.nil (AW.ret ?_)
   repeat with_reducible first | refine thenA_ret ?_ | refine inBlockA_ret ?_
   with_reducible first | refine retO_ret ?_ | refine retO_normal ?_
   refine reso1R rfl (ResV.tmp rfl) rfl ?_; rw [countP, if_pos (by omega)]; exact ⟨rfl, rfl⟩
  refine AL.n ?_; refine AL.ro (rd_move rfl rfl) ?_; refine AL.ro (rd_move rfl rfl) ?_; refine AL.ro qb ?_; refine AL.r qf ?_; refine AL.nil (AW.cd rfl (fun h14 => ?_) (fun h14 => ?_))
  ·refine AW.g (AL.rm ?_); refine AL.oq (calloR (rspoil_c g (numP r).2) [0] ?_); rintro y os' ⟨rfl, rfl⟩; refine AL.noR ?_; refine AL.nil (AW.g (AL.ra ?_)); refine AL.nil (AW.ret ?_)
   repeat with_reducible first | refine thenA_ret ?_ | refine inBlockA_ret ?_
   with_reducible first | refine retO_ret ?_ | refine retO_normal ?_
   refine reso1R rfl (ResV.tmp rfl) rfl ?_; rw [countP, if_pos (by omega)]; exact ⟨rfl, rfl⟩
  refine AW.skip (AW.g (AL.rm ?_)); refine AL.ra ?_; refine AL.nil (AW.ret ?_)
  repeat with_reducible first | refine thenA_ret ?_ | refine inBlockA_ret ?_
  with_reducible first | refine retO_ret ?_ | refine retO_normal ?_
  refine reso1R rfl (ResV.tmp rfl) rfl ?_; rw [countP, if_neg (by omega)]; exact ⟨rfl, rfl⟩
end
theorem textR_ok {r : RdrD} (h : r.Ok) (most : Int) : (textR r most).Ok ∧ (textR r most).b = r.b ∧ (textR r most).f = r.f ∧ (badP (textR r most) = false → 0 ≤ (numP r).1 ∧ (numP r).1 ≤ most ∧ (textR r most).at_ + (numP r).1 ≤ r.b.length) := by
  obtain ⟨a, b, c, _⟩ := numP_ok h
  unfold textR
  split
  · exact ⟨⟨a.len, a.lo, a.hi⟩, b, c, fun h => by simp [badP, spoilP] at h⟩
  rename_i h2
  refine ⟨a, b, c, fun h3 => ?_⟩; rw [leftP, if_neg (by rw [h3]; decide), b] at h2; omega
section
variable (g : Nat) (r : RdrD)
theorem rtext_c (h : r.Ok) (most : Int) : ACo Try.prog 57 [.bx 0 g 0, .sc (.int .i64 most)] (RdrT g r) (fun y os' => y = AS (rtextP r most).1 ∧ os' = RdrT g (rtextP r most).2) := by
  obtain ⟨a1, a2, a3, hn⟩ := numP_ok h
  obtain ⟨b1, b2, b3, b4⟩ := textR_ok h most
  have q1 := b1.len; have q2 := b1.lo; have q3 := b1.hi
  have hb := byA_len (textR r most).b
  refine ACo.of' (st0 := [⟨g, .box 101 [.sl (byA r.b), .sc (.int .i64 r.f), .sc (.int .i64 r.at_), .sc (.bool r.bad)]⟩]) 47 0 Try.func57 rfl 1 ?_; refine AW.g (AL.ra ?_); refine AL.nil (AW.g (AL.rm ?_)); refine AL.oq (calloR (rnum_c g r h) [0] ?_); rintro y os' ⟨rfl, rfl⟩; refine AL.noR ?_; refine AL.ra ?_; refine AL.nil (AW.join (ι := RdrD) [9, 10, 11, 12, 13, 14, 15, 16, 17, 18, 19, 20, 21, 22, 23] (fun r2 => []) [] (fun r2 => [(0, ⟨g, .box 101 [.sl (byA r2.b), .sc (.int .i64 r2.f), .sc (.int .i64 r2.at_), .sc (.bool r2.bad)]⟩)]) (fun r2 => r2 = textR r most) ?_ ?_)
  ·refine AW.g (AL.rm ?_); refine AL.r qb ?_; refine AL.rm ?_; refine AL.fk (d := 11) rfl (fun h11 => ?_) (fun h11 => ?_)
   ·refine AL.n ?_; (iterate 3 refine AL.rf ?_); refine AL.r qt ?_; refine AL.rm ?_; (iterate 4 refine AL.rf ?_); refine AL.r qt ?_; refine AL.nil ?_; change AW _ _ _ _ _; refine AW.cond_t rfl ?_; refine AW.region ?_; refine AL.rm ?_; refine AL.oq (calloR (rspoil_c g (numP r).2) [0] ?_); rintro y os' ⟨rfl, rfl⟩; refine AL.noR ?_; refine AL.nil ?_; refine ⟨spoilP (numP r).2, by rw [textR, if_pos (by omega)], wk, sk⟩
   refine AL.n ?_; refine AL.ro (rd_move rfl rfl) ?_; refine AL.ro (rd_move rfl rfl) ?_; refine AL.ro qb ?_; refine AL.r qf ?_; refine AL.rm ?_; refine AL.fk (d := 16) rfl (fun h16 => ?_) (fun h16 => ?_)
   ·refine AL.n ?_; (iterate 4 refine AL.rf ?_); refine AL.r qt ?_; refine AL.nil ?_; change AW _ _ _ _ _; refine AW.cond_t rfl ?_; refine AW.region ?_; refine AL.rm ?_; refine AL.oq (calloR (rspoil_c g (numP r).2) [0] ?_); rintro y os' ⟨rfl, rfl⟩; refine AL.noR ?_; refine AL.nil ?_; refine ⟨spoilP (numP r).2, by rw [textR, if_pos (by omega)], wk, sk⟩
   refine AL.n ?_; refine AL.ro (rd_move rfl rfl) ?_; refine AL.ro (rd_move rfl rfl) ?_; refine AL.on rfl rfl rfl (calloR (rleft_c g (numP r).2 a1) [0] ?_); rintro y os' ⟨rfl, rfl⟩; refine AL.noR ?_; refine AL.ro qb ?_; refine AL.r qf ?_; refine AL.nil (AW.cd rfl (fun h21 => ?_) (fun h21 => ?_))
   ·refine AW.region ?_; refine AL.rm ?_; refine AL.oq (calloR (rspoil_c g (numP r).2) [0] ?_); rintro y os' ⟨rfl, rfl⟩; refine AL.noR ?_; refine AL.nil ?_; refine ⟨spoilP (numP r).2, by rw [textR, if_pos (by omega)], wk, sk⟩
   refine AW.skip ?_; refine ⟨(numP r).2, by rw [textR, if_neg (by omega)], wk, sk⟩
  rintro r2 gs21 hJ21; refine AW.nm ?_
  (try dsimp only at hJ21)
  change AW _ _ _ _ _; refine AW.seq (AW.g ?_); subst hJ21; refine AL.rm ?_; refine AL.oq (calloR (rbad_c g (textR r most)) [0] ?_); rintro y os' ⟨rfl, rfl⟩; refine AL.noR ?_; refine AL.nil (AW.cd rfl (fun h25 => ?_) (fun h25 => ?_))
  ·refine AW.g (AL.ra ?_); refine AL.nil (AW.ret ?_)
   repeat with_reducible first | refine thenA_ret ?_ | refine inBlockA_ret ?_
   with_reducible first | refine retO_ret ?_ | refine retO_normal ?_
   refine reso1R rfl (ResV.tmp rfl) rfl ?_; simp_all [rtextP, RdrT]
  refine AW.skip (AW.g ?_); obtain ⟨c1, c2, c3⟩ := b4 h25; rw [← b2] at c3; refine AL.rm ?_; refine AL.r (rd_nilc_bx rfl rfl rfl) ?_; refine AL.r (qa fo_101_2) ?_; refine AL.r (ql ag_3) ?_; refine AL.ra ?_; refine AL.nil (AW.g (AL.rm ?_)); refine AL.r (rd_nilc_bx rfl rfl rfl) ?_; refine AL.r (qa fo_101_2) ?_; refine AL.r (ql ag_3) ?_; refine AL.rm ?_; refine AL.r (rd_arith_add rfl rfl rfl (IntWalk.i64_in _ (by omega))) ?_; refine AL.r (rd_nilc_bx rfl rfl rfl) ?_; refine AL.r (qa fo_101_2) ?_; refine AL.oq (oS sz_3 ?_); refine AL.no ?_; refine AL.nil (AW.seq (AW.draw (by kernel_rfl) ?_)); refine AD.r 0 rfl (rd_move rfl rfl) rfl ?_; refine AD.r 1 rfl (rd_nilc_bx rfl rfl rfl) rfl ?_; refine AD.r 2 rfl (qa fo_101_0) rfl ?_; refine AD.r 3 rfl (ql ag_35) rfl ?_; refine AD.r 4 rfl (rd_move rfl rfl) rfl ?_; refine AD.r 5 rfl (rd_move rfl rfl) rfl ?_; refine AD.r 6 rfl (rd_nilc_bx rfl rfl rfl) rfl ?_; refine AD.r 7 rfl (qa fo_101_2) rfl ?_; refine AD.r 8 rfl (ql ag_3) rfl ?_; refine AD.r 9 rfl (rd_slice_sl rfl el_35 rfl byA_one ⟨_, _, rfl, (Int.toNat_of_nonneg (by omega)).symm⟩ ⟨_, _, rfl, (Int.toNat_of_nonneg (by omega)).symm⟩ (by omega) (by rw [byA_len]; omega)) rfl ?_; refine AD.r 10 rfl (rd_b2s rfl (by kernel_rfl) (src_s rfl)) rfl ?_; refine AD.r 11 rfl (rd_assign rfl rfl) rfl ?_; refine AD.done (by kernel_rfl) ?_; change AW _ _ _ _ _; refine AW.ret ?_
  repeat with_reducible first | refine thenA_ret ?_ | refine inBlockA_ret ?_
  with_reducible first | refine retO_ret ?_ | refine retO_normal ?_
  refine reso1R rfl (ResV.tmp rfl) rfl ?_; rw [rtextP, if_neg (by rw [h25]; decide)]; exact ⟨rfl, rfl⟩
end
end Go.Proofs.Ytlapcfnmmpbeeaa
