/- A vault's first steps, reckoned out; awake, walked over abstract states. -/
import Derived.Test.YtgjpeldgjpgbcaaVltH
import Derived.Test.YtgjpeldgjpgbcaaVltS
namespace Go.Proofs.Ytgjpeldgjpgbcaa
set_option linter.unusedSimpArgs false
set_option linter.unusedVariables false
set_option maxRecDepth 100000
open Go.RowKit
section
variable {P : Program} {o : Oper} {t : List AV} {st : List TK} {ops : Array Oper} {l : List Oper} {fuel : Nat} {listed : Array Bool}
theorem calloW {xs : Array Operand} {Ts : Array TypeId} {K : AV → List TK → Prop} {f : FuncId} {ys : List AV} {os : List TK} {R : AV → List TK → Prop} (hC : ACo P f ys os R) (ks : List Nat) (h : ∀ y os', R y os' → K (ren2 ks y) (putT ks st ks os')) (ho : o.op = .call { callee := .value (.func f), args := xs, argTypes := Ts } := by rfl) (hok : callOk P f = true := by kernel_rfl) (hnd : ks.Nodup := by decide) (hsub : subT st ks (os.map (renT ks)) := by simp only [VltT5, VltT, SltT, LogT, List.cons_append, List.nil_append, fat_ren, fat_all, List.map_cons, List.map_nil, renT, renC_owM, renC_box, renC_own, renC_nown, renC_obj, renC_off, ren0, List.getD_cons_zero, List.getD_cons_succ]; repeat (first | exact trivial | refine ⟨rfl, ?_⟩)) (hargs : xs.toList.map (fun x => nzA (evA t x)) = ys.map (ren1 ks) := by rfl) (hoa : ys.all (ok1 os) = true := by simp only [VltT5, VltT, SltT, LogT, List.cons_append, List.nil_append, fat_ren, fat_all, cleanS, cle_owM, cle_own, cle_nown, cle_obj, cle_off, cle_box, okC, liveA, List.take_succ_cons, List.take_zero, List.all_cons, List.all_nil, List.getElem?_cons_zero, List.getElem?_cons_succ, isO_owM, isO_own, isO_nown, TC.isB, beq_self_eq_true, Bool.and_self, Bool.and_true, ok1, ok2, List.map_cons, List.map_nil]) (hcl : cleanS os = true := by simp only [VltT5, VltT, SltT, LogT, List.cons_append, List.nil_append, fat_ren, fat_all, cleanS, cle_owM, cle_own, cle_nown, cle_obj, cle_off, cle_box, okC, liveA, List.take_succ_cons, List.take_zero, List.all_cons, List.all_nil, List.getElem?_cons_zero, List.getElem?_cons_succ, isO_owM, isO_own, isO_nown, TC.isB, beq_self_eq_true, Bool.and_self, Bool.and_true, ok1, ok2, List.map_cons, List.map_nil]) : AOp P o t st K := op_callo hC ho hok ks hnd hsub hargs hoa hcl h
theorem centrW {K : AV → List TK → Prop} {f : FuncId} {us ys : List AV} {os : List TK} {R : AV → List TK → Prop} (hC : ACo P f ys os R) (hE : Ent P o t st f us) (ks : List Nat) (h : ∀ y os', R y os' → K (ren2 ks y) (putT ks st ks os')) (hnd : ks.Nodup := by decide) (hsub : subT st ks (os.map (renT ks)) := by simp only [VltT5, VltT, SltT, LogT, List.cons_append, List.nil_append, fat_ren, fat_all, List.map_cons, List.map_nil, renT, renC_owM, renC_box, renC_own, renC_nown, renC_obj, renC_off, ren0, List.getD_cons_zero, List.getD_cons_succ]; repeat (first | exact trivial | refine ⟨rfl, ?_⟩)) (hargs : us.map nzA = ys.map (ren1 ks) := by rfl) (hoa : ys.all (ok1 os) = true := by simp only [VltT5, VltT, SltT, LogT, List.cons_append, List.nil_append, fat_ren, fat_all, cleanS, cle_owM, cle_own, cle_nown, cle_obj, cle_off, cle_box, okC, liveA, List.take_succ_cons, List.take_zero, List.all_cons, List.all_nil, List.getElem?_cons_zero, List.getElem?_cons_succ, isO_owM, isO_own, isO_nown, TC.isB, beq_self_eq_true, Bool.and_self, Bool.and_true, ok1, ok2, List.map_cons, List.map_nil]) (hcl : cleanS os = true := by simp only [VltT5, VltT, SltT, LogT, List.cons_append, List.nil_append, fat_ren, fat_all, cleanS, cle_owM, cle_own, cle_nown, cle_obj, cle_off, cle_box, okC, liveA, List.take_succ_cons, List.take_zero, List.all_cons, List.all_nil, List.getElem?_cons_zero, List.getElem?_cons_succ, isO_owM, isO_own, isO_nown, TC.isB, beq_self_eq_true, Bool.and_self, Bool.and_true, ok1, ok2, List.map_cons, List.map_nil]) : AOp P o t st K := op_enter hC hE ks hnd hsub hargs hoa hcl h
theorem AL.noW {K : List AV → List TK → Prop} {t' : List AV} {st' : List TK} (h : AL P ops K l t' st') (ht : t = t' := by (try simp only [VltT5, VltT, SltT, LogT, List.cons_append, List.nil_append, fat_ren, fat_all, putA, evA, List.getD_cons_zero, List.getD_cons_succ, List.set_cons_zero, List.set_cons_succ, List.length_map, KR, splA, List.map_cons, List.map_nil, List.length_append, List.length_cons, List.length_nil, List.drop_zero, csS_len, csS_take, csS_drop, csS_app, byA_len, byA_take, byA_drop, byA_app, ← List.map_take, ← List.map_drop, ← List.map_append, List.take_succ_cons, List.take_zero, List.drop_succ_cons, List.cons_append, List.nil_append, Nat.zero_add, Nat.reduceAdd, Nat.reduceMul, Nat.add_zero, Nat.mul_one, putT, renT, renC_owM, renC_box, renC_own, renC_nown, renC_obj, renC_off, ren2, ren1, ren0, ok1, ok2]); (try rfl)) (hs : st = st' := by (try simp only [VltT5, VltT, SltT, LogT, List.cons_append, List.nil_append, fat_ren, fat_all, putA, evA, List.getD_cons_zero, List.getD_cons_succ, List.set_cons_zero, List.set_cons_succ, List.length_map, KR, splA, List.map_cons, List.map_nil, List.length_append, List.length_cons, List.length_nil, List.drop_zero, csS_len, csS_take, csS_drop, csS_app, byA_len, byA_take, byA_drop, byA_app, ← List.map_take, ← List.map_drop, ← List.map_append, List.take_succ_cons, List.take_zero, List.drop_succ_cons, List.cons_append, List.nil_append, Nat.zero_add, Nat.reduceAdd, Nat.reduceMul, Nat.add_zero, Nat.mul_one, putT, renT, renC_owM, renC_box, renC_own, renC_nown, renC_obj, renC_off, ren2, ren1, ren0, ok1, ok2]); (try rfl)) : AL P ops K l t st := by subst ht hs; exact h
theorem ADB.noW {K : List AV → List TK → Prop} {t' : List AV} {st' : List TK} (h : ADB P l K fuel listed t' st') (ht : t = t' := by (try simp only [VltT5, VltT, SltT, LogT, List.cons_append, List.nil_append, fat_ren, fat_all, putA, evA, List.getD_cons_zero, List.getD_cons_succ, List.set_cons_zero, List.set_cons_succ, List.length_map, KR, splA, List.map_cons, List.map_nil, List.length_append, List.length_cons, List.length_nil, List.drop_zero, csS_len, csS_take, csS_drop, csS_app, byA_len, byA_take, byA_drop, byA_app, ← List.map_take, ← List.map_drop, ← List.map_append, List.take_succ_cons, List.take_zero, List.drop_succ_cons, List.cons_append, List.nil_append, Nat.zero_add, Nat.reduceAdd, Nat.reduceMul, Nat.add_zero, Nat.mul_one, putT, renT, renC_owM, renC_box, renC_own, renC_nown, renC_obj, renC_off, ren2, ren1, ren0, ok1, ok2]); (try rfl)) (hs : st = st' := by (try simp only [VltT5, VltT, SltT, LogT, List.cons_append, List.nil_append, fat_ren, fat_all, putA, evA, List.getD_cons_zero, List.getD_cons_succ, List.set_cons_zero, List.set_cons_succ, List.length_map, KR, splA, List.map_cons, List.map_nil, List.length_append, List.length_cons, List.length_nil, List.drop_zero, csS_len, csS_take, csS_drop, csS_app, byA_len, byA_take, byA_drop, byA_app, ← List.map_take, ← List.map_drop, ← List.map_append, List.take_succ_cons, List.take_zero, List.drop_succ_cons, List.cons_append, List.nil_append, Nat.zero_add, Nat.reduceAdd, Nat.reduceMul, Nat.add_zero, Nat.mul_one, putT, renT, renC_owM, renC_box, renC_own, renC_nown, renC_obj, renC_off, ren2, ren1, ren0, ok1, ok2]); (try rfl)) : ADB P l K fuel listed t st := by subst ht hs; exact h
theorem reso0W {fn : Func} {n : Nat} {R : AV → List TK → Prop} (hr : fn.results = #[]) (h : R (.tu []) (st.take n)) (hn : n ≤ st.length := by exact Nat.le_of_ble_eq_true rfl) (hc : cleanS (st.take n) = true := by simp only [VltT5, VltT, SltT, LogT, List.cons_append, List.nil_append, fat_ren, fat_all, cleanS, cle_owM, cle_own, cle_nown, cle_obj, cle_off, cle_box, okC, liveA, List.take_succ_cons, List.take_zero, List.all_cons, List.all_nil, List.getElem?_cons_zero, List.getElem?_cons_succ, isO_owM, isO_own, isO_nown, TC.isB, beq_self_eq_true, Bool.and_self, Bool.and_true, ok1, ok2, List.map_cons, List.map_nil]) : ResO P fn n R t st := reso0 hr hn hc h
theorem reso1W {fn : Func} {n : Nat} {R : AV → List TK → Prop} {r1 : ResultVar} {z1 y1 : AV} (hr : fn.results = #[r1]) (h1 : ResV P t st r1 z1) (hz1 : resO1 n st z1 = some y1) (h : R (y1) (st.take n)) (hn : n ≤ st.length := by exact Nat.le_of_ble_eq_true rfl) (hc : cleanS (st.take n) = true := by simp only [VltT5, VltT, SltT, LogT, List.cons_append, List.nil_append, fat_ren, fat_all, cleanS, cle_owM, cle_own, cle_nown, cle_obj, cle_off, cle_box, okC, liveA, List.take_succ_cons, List.take_zero, List.all_cons, List.all_nil, List.getElem?_cons_zero, List.getElem?_cons_succ, isO_owM, isO_own, isO_nown, TC.isB, beq_self_eq_true, Bool.and_self, Bool.and_true, ok1, ok2, List.map_cons, List.map_nil]) (hok : ok2 (st.take n) (y1) = true := by simp only [VltT5, VltT, SltT, LogT, List.cons_append, List.nil_append, fat_ren, fat_all, cleanS, cle_owM, cle_own, cle_nown, cle_obj, cle_off, cle_box, okC, liveA, List.take_succ_cons, List.take_zero, List.all_cons, List.all_nil, List.getElem?_cons_zero, List.getElem?_cons_succ, isO_owM, isO_own, isO_nown, TC.isB, beq_self_eq_true, Bool.and_self, Bool.and_true, ok1, ok2, List.map_cons, List.map_nil]) : ResO P fn n R t st := reso1 hr hn hc h1 hz1 hok h
theorem reso2W {fn : Func} {n : Nat} {R : AV → List TK → Prop} {r1 r2 : ResultVar} {z1 y1 z2 y2 : AV} (hr : fn.results = #[r1, r2]) (h1 : ResV P t st r1 z1) (hz1 : resO1 n st z1 = some y1) (h2 : ResV P t st r2 z2) (hz2 : resO1 n st z2 = some y2) (h : R (.tu [y1, y2]) (st.take n)) (hn : n ≤ st.length := by exact Nat.le_of_ble_eq_true rfl) (hc : cleanS (st.take n) = true := by simp only [VltT5, VltT, SltT, LogT, List.cons_append, List.nil_append, fat_ren, fat_all, cleanS, cle_owM, cle_own, cle_nown, cle_obj, cle_off, cle_box, okC, liveA, List.take_succ_cons, List.take_zero, List.all_cons, List.all_nil, List.getElem?_cons_zero, List.getElem?_cons_succ, isO_owM, isO_own, isO_nown, TC.isB, beq_self_eq_true, Bool.and_self, Bool.and_true, ok1, ok2, List.map_cons, List.map_nil]) (hok : ok2 (st.take n) (.tu [y1, y2]) = true := by simp only [VltT5, VltT, SltT, LogT, List.cons_append, List.nil_append, fat_ren, fat_all, cleanS, cle_owM, cle_own, cle_nown, cle_obj, cle_off, cle_box, okC, liveA, List.take_succ_cons, List.take_zero, List.all_cons, List.all_nil, List.getElem?_cons_zero, List.getElem?_cons_succ, isO_owM, isO_own, isO_nown, TC.isB, beq_self_eq_true, Bool.and_self, Bool.and_true, ok1, ok2, List.map_cons, List.map_nil]) : ResO P fn n R t st := reso2 hr hn hc h1 hz1 h2 hz2 hok h
theorem reso3W {fn : Func} {n : Nat} {R : AV → List TK → Prop} {r1 r2 r3 : ResultVar} {z1 y1 z2 y2 z3 y3 : AV} (hr : fn.results = #[r1, r2, r3]) (h1 : ResV P t st r1 z1) (hz1 : resO1 n st z1 = some y1) (h2 : ResV P t st r2 z2) (hz2 : resO1 n st z2 = some y2) (h3 : ResV P t st r3 z3) (hz3 : resO1 n st z3 = some y3) (h : R (.tu [y1, y2, y3]) (st.take n)) (hn : n ≤ st.length := by exact Nat.le_of_ble_eq_true rfl) (hc : cleanS (st.take n) = true := by simp only [VltT5, VltT, SltT, LogT, List.cons_append, List.nil_append, fat_ren, fat_all, cleanS, cle_owM, cle_own, cle_nown, cle_obj, cle_off, cle_box, okC, liveA, List.take_succ_cons, List.take_zero, List.all_cons, List.all_nil, List.getElem?_cons_zero, List.getElem?_cons_succ, isO_owM, isO_own, isO_nown, TC.isB, beq_self_eq_true, Bool.and_self, Bool.and_true, ok1, ok2, List.map_cons, List.map_nil]) (hok : ok2 (st.take n) (.tu [y1, y2, y3]) = true := by simp only [VltT5, VltT, SltT, LogT, List.cons_append, List.nil_append, fat_ren, fat_all, cleanS, cle_owM, cle_own, cle_nown, cle_obj, cle_off, cle_box, okC, liveA, List.take_succ_cons, List.take_zero, List.all_cons, List.all_nil, List.getElem?_cons_zero, List.getElem?_cons_succ, isO_owM, isO_own, isO_nown, TC.isB, beq_self_eq_true, Bool.and_self, Bool.and_true, ok1, ok2, List.map_cons, List.map_nil]) : ResO P fn n R t st := reso3 hr hn hc h1 hz1 h2 hz2 h3 hz3 hok h
end

def wV0 : VltD := ⟨2, false⟩
def wL0 : LogD := ⟨2, false, 0, 0, 0⟩
def wD0 : DiskD := crD 500
def wV1 : VltD := vaddV byteN wV0 wL0 wD0 [97]
def wL1 : LogD := vaddL byteN wV0 wL0 wD0 [97]
def wD1 : DiskD := vaddD byteN wV0 wL0 wD0 [97]
def wV2 : VltD := vaddV byteN wV1 wL1 wD1 [98]
def wL2 : LogD := vaddL byteN wV1 wL1 wD1 [98]
def wD2 : DiskD := vaddD byteN wV1 wL1 wD1 [98]
def wF : FoldO := foldO byteN wV2 S0 wL2 wD2 2 1 0 [115]
def wV4 : VltD := vaddV byteN wF.V wF.L wF.d [99]
def wL4 : LogD := vaddL byteN wF.V wF.L wF.d [99]
def wD4 : DiskD := vaddD byteN wF.V wF.L wF.d [99]
def wD5 : DiskD := vsyncD wV4 wL4 wD4
theorem w_L1 : wL1 = ⟨2, false, 1, 9, 1⟩ := by kernel_rfl
theorem w_V1 : wV1 = ⟨2, false⟩ := by kernel_rfl
theorem w_F : wF.r = 0 := by kernel_rfl
theorem w_FL : wF.L = ⟨3, false, 0, 0, 0⟩ := by kernel_rfl
theorem w_dark : wD5.dark = false := by kernel_rfl
theorem w_S : openS byteN wD5 0 = ⟨0, 0, 1, [115], false⟩ := by kernel_rfl
theorem w_open : openR byteN wD5 3 = 0 := by kernel_rfl
theorem w_scan : scanN byteN (wD5.n 3) = ([[99]], 9) := by kernel_rfl
section
variable {t : Nat → Nat} {V : VltD} {S : SltD} {L : LogD} {d : DiskD} {k : Nat} (h : d.Ok k)
include h
theorem addD_Ok (b : List UInt8) : (addD t L d b).Ok (k + 1) := by
  unfold addD
  split
  · exact h.mono (by omega)
  · split
    · exact h.mono (by omega)
    · exact h.app _ _
theorem vaddD_Ok (b : List UInt8) : (vaddD t V L d b).Ok (k + 1) := by
  unfold vaddD
  split
  · exact h.mono (by omega)
  · exact addD_Ok h b
theorem lsyncD_Ok : (lsyncD L d).Ok k := by
  unfold lsyncD
  split
  · exact h
  · exact h.sync
theorem vsyncD_Ok : (vsyncD V L d).Ok k := by
  unfold vsyncD
  split
  · exact h
  · exact lsyncD_Ok h
theorem emptyD_Ok : (emptyD L d).Ok (k + 1) := by
  unfold emptyD
  split
  · exact h.mono (by omega)
  · exact h.cut _ _
theorem foldO_Ok {f c e : Nat} {b : List UInt8} (hf : f = 2 ∨ f = 3) : (foldO t V S L d f c e b).d.Ok (k + 4) := by
  have h1 := cutD_Ok h (show 5 - f < 4 by omega) 0
  unfold foldO
  split
  · exact h.mono (by omega)
  · split
    · split
      · exact (emptyD_Ok (sputD_Ok h1 (by omega))).mono (by omega)
      · exact (sputD_Ok h1 (by omega)).mono (by omega)
    · exact h1.mono (by omega)
end
theorem w_Ok0 : wD0.Ok 4 := (cr_sync (R := 500) ⟨by omega, by omega⟩).2.1.gro.ok
theorem w_Ok1 : wD1.Ok 5 := vaddD_Ok w_Ok0 _
theorem w_Ok2 : wD2.Ok 6 := vaddD_Ok w_Ok1 _
theorem w_Ok3 : wF.d.Ok 10 := foldO_Ok w_Ok2 (.inl rfl)
theorem w_Ok4 : wD4.Ok 11 := vaddD_Ok w_Ok3 _
theorem w_Ok5 : wD5.Ok 11 := vsyncD_Ok w_Ok4
theorem w_LOk0 : wL0.Ok := ⟨by decide, by decide, by decide⟩
theorem w_LOk1 : wL1.Ok := by rw [w_L1]; exact ⟨by decide, by decide, by decide⟩
theorem w_LOkF : wF.L.Ok := by rw [w_FL]; exact ⟨by decide, by decide, by decide⟩
theorem w_V2 : wV2.file = ((2 : Nat) : Int) := by kernel_rfl
theorem w_S0 : S0.At 0 1 0 := ⟨rfl, rfl, rfl, by omega, by omega, by omega⟩
def wS5 : SltD := ⟨0, 0, 1, [115], false⟩
theorem w_fold (gl h : Nat) : ACo Try.prog 64 [.bx 0 1 0, .sl (byA [115])] (VltT5 1 1 gl 1 h byteN wV2 S0 wL2 wD2) (fun y os' => ∃ gl' h', y = .sc (.int .i64 0) ∧ os' = VltT5 1 1 gl' 1 h' byteN wF.V wF.S wF.L wF.d) := by
  have := vfold_c 1 1 gl 1 h byteN byte_tab wV2 S0 wL2 wD2 w_Ok2 (by omega) 2 (.inl rfl) w_V2 w_S0 [115]
  rw [show foldO byteN wV2 S0 wL2 wD2 2 1 0 [115] = wF from rfl, w_F] at this
  exact this
theorem w_reopen (h1 h2 h3 : Nat) : ACo Try.prog 58 [.bx 0 1 0, .sc (tabV byteN)] [⟨1, .obj (DiskP wD5)⟩, ⟨h1, .off⟩, ⟨h2, .off⟩, ⟨h3, .off⟩] (fun y os => y = .tu [.bx 3 (h3 + 1) 0, .sl (rowsA [[99]]), .sc (.int .i64 0)] ∧ os = [⟨1, .obj (DiskP (openD byteN wD5 3))⟩, ⟨h1 + 1, .box 119 (fatC [.bx 0 1 0] byteN [.sc (.int .i64 wS5.file), .sc (.int .i64 wS5.counts), .sc (.int .i64 wS5.epoch), .sl (byA wS5.bytes), .sc (.bool wS5.down)])⟩, ⟨h2 + 1, .box 111 (fatC [.bx 0 1 0] byteN [.sc (.int .i64 3), .sc (.bool false), .sc (.int .i64 1), .sc (.int .i64 9), .sc (.int .i64 0)])⟩, ⟨h3 + 1, .box 126 (fatC [.bx 0 1 0] byteN [.bx 1 (h1 + 1) 0, .bx 2 (h2 + 1) 0, .sc (.int .i64 3), .sc (.bool false)])⟩]) := by
  have := vopen_ok byteN byte_tab wD5 w_Ok5 (by omega) 1 h1 h2 h3 w_dark (S := wS5) (e := 1) w_S rfl rfl rfl w_open
  rw [show vfile 1 = 3 from rfl, w_scan] at this
  exact this
theorem awake12_c : AC Try.prog 56 [] (fun r => r = .s (.sc (.bool true))) := by
  refine AC.of' 72 17 Try.func56 rfl ?_
  change AW _ _ _ _ [TK.mk 0 .off, TK.mk 0 .off, TK.mk 0 .off, TK.mk 0 .off, TK.mk 0 .off, TK.mk 0 .off, TK.mk 0 .off, TK.mk 0 .off, TK.mk 0 .off, TK.mk 0 .off, TK.mk 0 .off, TK.mk 0 .off, TK.mk 0 .off, TK.mk 0 .off, TK.mk 0 .off, TK.mk 0 .off, TK.mk 0 .off]
  refine AW.seq ?_
  refine AW.region ?_
  refine AL.ra ?_
  refine AL.nil ?_
  change AW _ _ _ _ _
  refine AW.seq ?_
  refine AW.region ?_
  refine AL.op rfl (AOpB.op (op_call (made_c) rfl (by kernel_rfl) rfl (none) ?_))
  rintro r rfl
  refine AL.no ?_
  refine AL.op rfl (AOpB.op (op_taballoc 8 rfl rfl ?_))
  refine AL.no ?_
  refine AL.op rfl (op_tabstore rfl rfl rfl (tabA_len _) rfl sz_Table ?_)
  refine AL.no ?_
  refine AL.nil ?_
  change AW _ _ _ _ _
  refine AW.seq ?_
  refine AW.region ?_
  refine AL.op rfl (calloW (od_new 500 (by omega) 0) [0] ?_)
  rintro y os' ⟨rfl, rfl⟩
  refine AL.noW ?_
  refine AL.rm ?_
  refine AL.r (rd_extract rfl rfl rfl) ?_
  refine AL.r (rd_extract rfl rfl rfl) ?_
  refine AL.ra ?_
  refine AL.ra ?_
  refine AL.nil ?_
  change AW _ _ _ _ _
  refine AW.seq ?_
  refine AW.region ?_
  refine AL.rm ?_
  refine AL.r (rd_tab0 rfl ag_53 rfl rfl) ?_
  refine AL.op rfl (calloW (vcreate_c byteN byte_tab 1 0 0 0 (R := 500) ⟨by omega, by omega⟩) [0, 1, 2, 3] ?_)
  rintro y os' ⟨rfl, rfl⟩
  refine AL.noW ?_
  refine AL.rm ?_
  refine AL.r (rd_extract rfl rfl rfl) ?_
  refine AL.r (rd_extract rfl rfl rfl) ?_
  refine AL.ra ?_
  refine AL.ra ?_
  refine AL.nil ?_
  change AW _ _ _ _ _
  refine AW.seq ?_
  refine AW.region ?_
  refine AL.rm ?_
  refine AL.op rfl (AOpB.op (bs_own 9 rfl ap_29 ze_5 rfl rfl rfl ?_))
  refine AL.no ?_
  refine AL.op rfl (op_conv_own rfl by_29 rfl rfl ?_)
  refine AL.no ?_
  refine AL.op rfl (calloW (vadd_c 1 1 1 1 byteN byte_tab wV0 S0 wL0 wD0 w_Ok0 (by omega) w_LOk0 [97]) [3, 1, 2, 0] ?_)
  rintro y os' ⟨rfl, rfl⟩
  refine AL.noW ?_
  refine AL.nil ?_
  change AW _ _ _ _ _
  refine AW.seq ?_
  refine AW.region ?_
  refine AL.rm ?_
  refine AL.op rfl (AOpB.op (bs_own 11 rfl ap_29 ze_5 rfl rfl rfl ?_))
  refine AL.no ?_
  refine AL.op rfl (op_conv_own rfl by_29 rfl rfl ?_)
  refine AL.no ?_
  refine AL.op rfl (calloW (vadd_c 1 1 1 1 byteN byte_tab wV1 S0 wL1 wD1 w_Ok1 (by omega) w_LOk1 [98]) [3, 1, 2, 0] ?_)
  rintro y os' ⟨rfl, rfl⟩
  refine AL.noW ?_
  refine AL.nil ?_
  change AW _ _ _ _ _
  refine AW.seq ?_
  refine AW.region ?_
  refine AL.rm ?_
  refine AL.op rfl (AOpB.op (bs_own 13 rfl ap_29 ze_5 rfl rfl rfl ?_))
  refine AL.no ?_
  refine AL.op rfl (op_conv_own rfl by_29 rfl rfl ?_)
  refine AL.no ?_
  refine AL.op rfl (calloW (w_fold 1 0) [3, 1, 2, 0, 4] ?_)
  rintro y os' ⟨gl, h4, rfl, rfl⟩
  refine AL.noW ?_
  refine AL.ra ?_
  refine AL.nil ?_
  change AW _ _ _ _ _
  refine AW.seq ?_
  refine AW.region ?_
  refine AL.rm ?_
  refine AL.op rfl (AOpB.op (bs_own 15 rfl ap_29 ze_5 rfl rfl rfl ?_))
  refine AL.no ?_
  refine AL.op rfl (op_conv_own rfl by_29 rfl rfl ?_)
  refine AL.no ?_
  refine AL.op rfl (calloW (vadd_c 1 1 gl 1 byteN byte_tab wF.V wF.S wF.L wF.d w_Ok3 (by omega) w_LOkF [99]) [3, 1, 2, 0] ?_)
  rintro y os' ⟨rfl, rfl⟩
  refine AL.noW ?_
  refine AL.nil ?_
  change AW _ _ _ _ _
  refine AW.seq ?_
  refine AW.region ?_
  refine AL.rm ?_
  refine AL.op rfl (calloW (vsync_c 1 1 gl 1 byteN wV4 wF.S wL4 wD4 w_Ok4 (by omega)) [3, 1, 2, 0] ?_)
  rintro y os' ⟨rfl, rfl⟩
  refine AL.noW ?_
  refine AL.nil ?_
  change AW _ _ _ _ _
  refine AW.seq ?_
  refine AW.region ?_
  refine AL.rm ?_
  refine AL.r (rd_tab0 rfl ag_53 rfl rfl) ?_
  refine AL.op rfl (calloW (w_reopen 0 0 0) [0, 5, 6, 7] ?_)
  rintro y os' ⟨rfl, rfl⟩
  refine AL.noW ?_
  refine AL.rm ?_
  refine AL.r (rd_extract rfl rfl rfl) ?_
  refine AL.r (rd_extract rfl rfl rfl) ?_
  refine AL.r (rd_extract rfl rfl rfl) ?_
  refine AL.ra ?_
  refine AL.ra ?_
  refine AL.ra ?_
  refine AL.nil ?_
  change AW _ _ _ _ _
  refine AW.seq ?_
  refine AW.region ?_
  refine AL.rm ?_
  refine AL.r (rd_bin rfl rfl rfl (fun _ => rfl)) ?_
  refine AL.rm ?_
  refine AL.ro (rd_move rfl rfl) ?_
  refine AL.ro (rd_bin rfl rfl rfl (fun _ => rfl)) ?_
  refine AL.r (rd_pick_t rfl rfl rfl) ?_
  refine AL.rm ?_
  refine AL.ro (rd_move rfl rfl) ?_
  refine AL.ro (rd_bin rfl rfl rfl (fun _ => rfl)) ?_
  refine AL.r (rd_pick_t rfl rfl rfl) ?_
  refine AL.rm ?_
  refine AL.ro (rd_move rfl rfl) ?_
  refine AL.on rfl rfl rfl (calloW (vbytes_c 1 1 1 1 byteN ⟨3, false⟩ wS5 ⟨3, false, 1, 9, 0⟩ (openD byteN wD5 3) (by decide)) [7, 5, 6, 0] ?_)
  rintro y os' ⟨rfl, rfl⟩
  refine AL.noW ?_
  refine AL.ro (rd_b2s rfl (by kernel_rfl) (src_s rfl)) ?_
  refine AL.ro (rd_seq rfl rfl rfl) ?_
  refine AL.r (rd_pick_t rfl rfl rfl) ?_
  refine AL.rm ?_
  refine AL.fk (d := 62) rfl (fun h62 => ?_) (fun h62 => ?_)
  ·skip
   refine AL.n ?_
   refine AL.ro (rd_move rfl rfl) ?_
   refine AL.ro (rd_len_sl rfl el_56 rfl) ?_
   refine AL.ro (rd_bin rfl rfl rfl (fun _ => rfl)) ?_
   refine AL.r (rd_pick_t rfl rfl rfl) ?_
   refine AL.rm ?_
   refine AL.fk (d := 67) rfl (fun h67 => ?_) (fun h67 => ?_)
   ·skip
    refine AL.n ?_
    refine AL.ro (rd_move rfl rfl) ?_
    refine AL.on rfl rfl rfl (calloW (vepoch_c 1 1 1 1 byteN ⟨3, false⟩ wS5 ⟨3, false, 1, 9, 0⟩ (openD byteN wD5 3)) [7, 5, 6, 0] ?_)
    rintro y os' ⟨rfl, rfl⟩
    refine AL.noW ?_
    refine AL.ro (rd_bin rfl rfl rfl (fun _ => rfl)) ?_
    refine AL.r (rd_pick_t rfl rfl rfl) ?_
    refine AL.ra ?_
    refine AL.nil ?_
    change AW _ _ _ _ _
    refine AW.ret ?_
    change ResA _ _ _ _ _
    refine res1 rfl (ResV.tmp rfl) rfl ?_
    first | rfl | exact absurd rfl h67 | exact absurd rfl h62
   ·skip
    refine AL.n ?_
    refine AL.rf ?_
    refine AL.rf ?_
    refine AL.rf ?_
    refine AL.r (rd_pick_f rfl rfl rfl) ?_
    refine AL.ra ?_
    refine AL.nil ?_
    change AW _ _ _ _ _
    refine AW.ret ?_
    change ResA _ _ _ _ _
    refine res1 rfl (ResV.tmp rfl) rfl ?_
    first | rfl | exact absurd rfl h67 | exact absurd rfl h62
  ·skip
   refine AL.n ?_
   refine AL.rf ?_
   refine AL.rf ?_
   refine AL.rf ?_
   refine AL.r (rd_pick_f rfl rfl rfl) ?_
   refine AL.rm ?_
   refine AL.rf ?_
   refine AL.rf ?_
   refine AL.rf ?_
   refine AL.r (rd_pick_f rfl rfl rfl) ?_
   refine AL.ra ?_
   refine AL.nil ?_
   change AW _ _ _ _ _
   refine AW.ret ?_
   change ResA _ _ _ _ _
   refine res1 rfl (ResV.tmp rfl) rfl ?_
   first | rfl | exact absurd rfl h67 | exact absurd rfl h62
end Go.Proofs.Ytgjpeldgjpgbcaa
