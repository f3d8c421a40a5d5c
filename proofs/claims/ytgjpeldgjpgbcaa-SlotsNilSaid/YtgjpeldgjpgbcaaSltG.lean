/- The law SlotsNil, walked over abstract states. -/
import Derived.Test.YtgjpeldgjpgbcaaSltF
import Derived.Test.YtgjpeldgjpgbcaaOwS
namespace Go.Proofs.Ytgjpeldgjpgbcaa
set_option linter.unusedSimpArgs false
set_option linter.unusedVariables false
set_option maxRecDepth 100000
open Go.RowKit

theorem byA_at0 {l : List UInt8} (h : 0 < l.length) : (byA l)[0]? = some [.sc (bv l[0])] := by
  unfold byA
  rw [List.getElem?_map, List.getElem?_eq_getElem h]; rfl
theorem nil_sput (b : List UInt8) : AC Try.prog 55 [.sc (.pointer none), .sl (byA b)] (fun r => r = .s (.sc (.int .i64 1))) := by
  refine AC.of' 70 2 Try.func55 rfl ?_
  change AW _ _ _ _ [TK.mk 0 .off, TK.mk 0 .off]
  refine AW.seq ?_
  refine AW.region ?_
  refine AL.ra ?_
  refine AL.nil ?_
  change AW _ _ _ _ _
  refine AW.seq ?_
  refine AW.seq ?_
  refine AW.region ?_
  refine AL.rm ?_
  refine AL.r (rd_peq_nil rfl pt_70 rfl rfl) ?_
  refine AL.nil ?_
  change AW _ _ _ _ _
  refine AW.cond_t rfl ?_
  refine AW.seq ?_
  refine AW.region ?_
  refine AL.ra ?_
  refine AL.nil ?_
  change AW _ _ _ _ _
  refine AW.ret ?_
  change ResA _ _ _ _ _
  refine res1 rfl (ResV.tmp rfl) rfl ?_
  rfl
theorem nil_sepoch : AC Try.prog 51 [.sc (.pointer none)] (fun r => r = .s (.sc (.int .i64 0))) := by
  refine AC.of' 8 0 Try.func51 rfl ?_
  change AW _ _ _ _ []
  refine AW.seq ?_
  refine AW.region ?_
  refine AL.ra ?_
  refine AL.nil ?_
  change AW _ _ _ _ _
  refine AW.seq ?_
  refine AW.seq ?_
  refine AW.region ?_
  refine AL.rm ?_
  refine AL.r (rd_peq_nil rfl pt_70 rfl rfl) ?_
  refine AL.nil ?_
  change AW _ _ _ _ _
  refine AW.cond_t rfl ?_
  refine AW.seq ?_
  refine AW.region ?_
  refine AL.ra ?_
  refine AL.nil ?_
  change AW _ _ _ _ _
  refine AW.ret ?_
  change ResA _ _ _ _ _
  refine res1 rfl (ResV.tmp rfl) rfl ?_
  rfl
theorem nil_sbytes : AC Try.prog 52 [.sc (.pointer none)] (fun r => r = .s (.sl [])) := by
  refine AC.of' 10 2 Try.func52 rfl ?_
  change AW _ _ _ _ [TK.mk 0 .off, TK.mk 0 .off]
  refine AW.seq ?_
  refine AW.region ?_
  refine AL.ra ?_
  refine AL.nil ?_
  change AW _ _ _ _ _
  refine AW.seq ?_
  refine AW.seq ?_
  refine AW.region ?_
  refine AL.rm ?_
  refine AL.r (rd_peq_nil rfl pt_70 rfl rfl) ?_
  refine AL.nil ?_
  change AW _ _ _ _ _
  refine AW.cond_t rfl ?_
  refine AW.seq ?_
  refine AW.region ?_
  refine AL.ra ?_
  refine AL.nil ?_
  change AW _ _ _ _ _
  refine AW.ret ?_
  change ResA _ _ _ _ _
  refine res1 rfl (ResV.tmp rfl) rfl ?_
  rfl
section
variable (g G : Nat) (t : Nat → Nat) (S : SltD) (d : DiskD)
def SltT3 (g G : Nat) (t : Nat → Nat) (S : SltD) (d : DiskD) (tk : TK) : List TK := [⟨g, .box 119 (fatC [.bx 1 G 0] t [.sc (.int .i64 S.file), .sc (.int .i64 S.counts), .sc (.int .i64 S.epoch), .sl (byA S.bytes), .sc (.bool S.down)])⟩, ⟨G, .obj (DiskP d)⟩, tk]
section
variable {P : Program} {o : Oper} {t : List AV} {st : List TK} {ops : Array Oper} {l : List Oper} {fuel : Nat} {listed : Array Bool}
theorem calloY {xs : Array Operand} {Ts : Array TypeId} {K : AV → List TK → Prop} {f : FuncId} {ys : List AV} {os : List TK} {R : AV → List TK → Prop} (hC : ACo P f ys os R) (ks : List Nat) (h : ∀ y os', R y os' → K (ren2 ks y) (putT ks st ks os')) (ho : o.op = .call { callee := .value (.func f), args := xs, argTypes := Ts } := by rfl) (hok : callOk P f = true := by kernel_rfl) (hnd : ks.Nodup := by decide) (hsub : subT st ks (os.map (renT ks)) := by simp only [SltT3, SltT, fat_ren, fat_all, List.map_cons, List.map_nil, renT, renC_owM, renC_box, renC_own, renC_nown, renC_obj, renC_off, ren0, List.getD_cons_zero, List.getD_cons_succ]; repeat (first | exact trivial | refine ⟨rfl, ?_⟩)) (hargs : xs.toList.map (fun x => nzA (evA t x)) = ys.map (ren1 ks) := by rfl) (hoa : ys.all (ok1 os) = true := by simp only [SltT3, SltT, fat_ren, fat_all, cleanS, cle_owM, cle_own, cle_nown, cle_obj, cle_off, cle_box, okC, liveA, List.take_succ_cons, List.take_zero, List.all_cons, List.all_nil, List.getElem?_cons_zero, List.getElem?_cons_succ, isO_owM, isO_own, isO_nown, TC.isB, beq_self_eq_true, Bool.and_self, Bool.and_true, ok1, ok2, List.map_cons, List.map_nil]) (hcl : cleanS os = true := by simp only [SltT3, SltT, fat_ren, fat_all, cleanS, cle_owM, cle_own, cle_nown, cle_obj, cle_off, cle_box, okC, liveA, List.take_succ_cons, List.take_zero, List.all_cons, List.all_nil, List.getElem?_cons_zero, List.getElem?_cons_succ, isO_owM, isO_own, isO_nown, TC.isB, beq_self_eq_true, Bool.and_self, Bool.and_true, ok1, ok2, List.map_cons, List.map_nil]) : AOp P o t st K := op_callo hC ho hok ks hnd hsub hargs hoa hcl h
theorem centrY {K : AV → List TK → Prop} {f : FuncId} {us ys : List AV} {os : List TK} {R : AV → List TK → Prop} (hC : ACo P f ys os R) (hE : Ent P o t st f us) (ks : List Nat) (h : ∀ y os', R y os' → K (ren2 ks y) (putT ks st ks os')) (hnd : ks.Nodup := by decide) (hsub : subT st ks (os.map (renT ks)) := by simp only [SltT3, SltT, fat_ren, fat_all, List.map_cons, List.map_nil, renT, renC_owM, renC_box, renC_own, renC_nown, renC_obj, renC_off, ren0, List.getD_cons_zero, List.getD_cons_succ]; repeat (first | exact trivial | refine ⟨rfl, ?_⟩)) (hargs : us.map nzA = ys.map (ren1 ks) := by rfl) (hoa : ys.all (ok1 os) = true := by simp only [SltT3, SltT, fat_ren, fat_all, cleanS, cle_owM, cle_own, cle_nown, cle_obj, cle_off, cle_box, okC, liveA, List.take_succ_cons, List.take_zero, List.all_cons, List.all_nil, List.getElem?_cons_zero, List.getElem?_cons_succ, isO_owM, isO_own, isO_nown, TC.isB, beq_self_eq_true, Bool.and_self, Bool.and_true, ok1, ok2, List.map_cons, List.map_nil]) (hcl : cleanS os = true := by simp only [SltT3, SltT, fat_ren, fat_all, cleanS, cle_owM, cle_own, cle_nown, cle_obj, cle_off, cle_box, okC, liveA, List.take_succ_cons, List.take_zero, List.all_cons, List.all_nil, List.getElem?_cons_zero, List.getElem?_cons_succ, isO_owM, isO_own, isO_nown, TC.isB, beq_self_eq_true, Bool.and_self, Bool.and_true, ok1, ok2, List.map_cons, List.map_nil]) : AOp P o t st K := op_enter hC hE ks hnd hsub hargs hoa hcl h
theorem AL.noY {K : List AV → List TK → Prop} {t' : List AV} {st' : List TK} (h : AL P ops K l t' st') (ht : t = t' := by (try simp only [SltT3, SltT, fat_ren, fat_all, putA, evA, List.getD_cons_zero, List.getD_cons_succ, List.set_cons_zero, List.set_cons_succ, List.length_map, KR, splA, List.map_cons, List.map_nil, List.length_append, List.length_cons, List.length_nil, List.drop_zero, csS_len, csS_take, csS_drop, csS_app, byA_len, byA_take, byA_drop, byA_app, ← List.map_take, ← List.map_drop, ← List.map_append, List.take_succ_cons, List.take_zero, List.drop_succ_cons, List.cons_append, List.nil_append, Nat.zero_add, Nat.reduceAdd, Nat.reduceMul, Nat.add_zero, Nat.mul_one, putT, renT, renC_owM, renC_box, renC_own, renC_nown, renC_obj, renC_off, ren2, ren1, ren0, ok1, ok2]); (try rfl)) (hs : st = st' := by (try simp only [SltT3, SltT, fat_ren, fat_all, putA, evA, List.getD_cons_zero, List.getD_cons_succ, List.set_cons_zero, List.set_cons_succ, List.length_map, KR, splA, List.map_cons, List.map_nil, List.length_append, List.length_cons, List.length_nil, List.drop_zero, csS_len, csS_take, csS_drop, csS_app, byA_len, byA_take, byA_drop, byA_app, ← List.map_take, ← List.map_drop, ← List.map_append, List.take_succ_cons, List.take_zero, List.drop_succ_cons, List.cons_append, List.nil_append, Nat.zero_add, Nat.reduceAdd, Nat.reduceMul, Nat.add_zero, Nat.mul_one, putT, renT, renC_owM, renC_box, renC_own, renC_nown, renC_obj, renC_off, ren2, ren1, ren0, ok1, ok2]); (try rfl)) : AL P ops K l t st := by subst ht hs; exact h
theorem ADB.noY {K : List AV → List TK → Prop} {t' : List AV} {st' : List TK} (h : ADB P l K fuel listed t' st') (ht : t = t' := by (try simp only [SltT3, SltT, fat_ren, fat_all, putA, evA, List.getD_cons_zero, List.getD_cons_succ, List.set_cons_zero, List.set_cons_succ, List.length_map, KR, splA, List.map_cons, List.map_nil, List.length_append, List.length_cons, List.length_nil, List.drop_zero, csS_len, csS_take, csS_drop, csS_app, byA_len, byA_take, byA_drop, byA_app, ← List.map_take, ← List.map_drop, ← List.map_append, List.take_succ_cons, List.take_zero, List.drop_succ_cons, List.cons_append, List.nil_append, Nat.zero_add, Nat.reduceAdd, Nat.reduceMul, Nat.add_zero, Nat.mul_one, putT, renT, renC_owM, renC_box, renC_own, renC_nown, renC_obj, renC_off, ren2, ren1, ren0, ok1, ok2]); (try rfl)) (hs : st = st' := by (try simp only [SltT3, SltT, fat_ren, fat_all, putA, evA, List.getD_cons_zero, List.getD_cons_succ, List.set_cons_zero, List.set_cons_succ, List.length_map, KR, splA, List.map_cons, List.map_nil, List.length_append, List.length_cons, List.length_nil, List.drop_zero, csS_len, csS_take, csS_drop, csS_app, byA_len, byA_take, byA_drop, byA_app, ← List.map_take, ← List.map_drop, ← List.map_append, List.take_succ_cons, List.take_zero, List.drop_succ_cons, List.cons_append, List.nil_append, Nat.zero_add, Nat.reduceAdd, Nat.reduceMul, Nat.add_zero, Nat.mul_one, putT, renT, renC_owM, renC_box, renC_own, renC_nown, renC_obj, renC_off, ren2, ren1, ren0, ok1, ok2]); (try rfl)) : ADB P l K fuel listed t st := by subst ht hs; exact h
theorem reso0Y {fn : Func} {n : Nat} {R : AV → List TK → Prop} (hr : fn.results = #[]) (h : R (.tu []) (st.take n)) (hn : n ≤ st.length := by exact Nat.le_of_ble_eq_true rfl) (hc : cleanS (st.take n) = true := by simp only [SltT3, SltT, fat_ren, fat_all, cleanS, cle_owM, cle_own, cle_nown, cle_obj, cle_off, cle_box, okC, liveA, List.take_succ_cons, List.take_zero, List.all_cons, List.all_nil, List.getElem?_cons_zero, List.getElem?_cons_succ, isO_owM, isO_own, isO_nown, TC.isB, beq_self_eq_true, Bool.and_self, Bool.and_true, ok1, ok2, List.map_cons, List.map_nil]) : ResO P fn n R t st := reso0 hr hn hc h
theorem reso1Y {fn : Func} {n : Nat} {R : AV → List TK → Prop} {r1 : ResultVar} {z1 y1 : AV} (hr : fn.results = #[r1]) (h1 : ResV P t st r1 z1) (hz1 : resO1 n st z1 = some y1) (h : R (y1) (st.take n)) (hn : n ≤ st.length := by exact Nat.le_of_ble_eq_true rfl) (hc : cleanS (st.take n) = true := by simp only [SltT3, SltT, fat_ren, fat_all, cleanS, cle_owM, cle_own, cle_nown, cle_obj, cle_off, cle_box, okC, liveA, List.take_succ_cons, List.take_zero, List.all_cons, List.all_nil, List.getElem?_cons_zero, List.getElem?_cons_succ, isO_owM, isO_own, isO_nown, TC.isB, beq_self_eq_true, Bool.and_self, Bool.and_true, ok1, ok2, List.map_cons, List.map_nil]) (hok : ok2 (st.take n) (y1) = true := by simp only [SltT3, SltT, fat_ren, fat_all, cleanS, cle_owM, cle_own, cle_nown, cle_obj, cle_off, cle_box, okC, liveA, List.take_succ_cons, List.take_zero, List.all_cons, List.all_nil, List.getElem?_cons_zero, List.getElem?_cons_succ, isO_owM, isO_own, isO_nown, TC.isB, beq_self_eq_true, Bool.and_self, Bool.and_true, ok1, ok2, List.map_cons, List.map_nil]) : ResO P fn n R t st := reso1 hr hn hc h1 hz1 hok h
theorem reso2Y {fn : Func} {n : Nat} {R : AV → List TK → Prop} {r1 r2 : ResultVar} {z1 y1 z2 y2 : AV} (hr : fn.results = #[r1, r2]) (h1 : ResV P t st r1 z1) (hz1 : resO1 n st z1 = some y1) (h2 : ResV P t st r2 z2) (hz2 : resO1 n st z2 = some y2) (h : R (.tu [y1, y2]) (st.take n)) (hn : n ≤ st.length := by exact Nat.le_of_ble_eq_true rfl) (hc : cleanS (st.take n) = true := by simp only [SltT3, SltT, fat_ren, fat_all, cleanS, cle_owM, cle_own, cle_nown, cle_obj, cle_off, cle_box, okC, liveA, List.take_succ_cons, List.take_zero, List.all_cons, List.all_nil, List.getElem?_cons_zero, List.getElem?_cons_succ, isO_owM, isO_own, isO_nown, TC.isB, beq_self_eq_true, Bool.and_self, Bool.and_true, ok1, ok2, List.map_cons, List.map_nil]) (hok : ok2 (st.take n) (.tu [y1, y2]) = true := by simp only [SltT3, SltT, fat_ren, fat_all, cleanS, cle_owM, cle_own, cle_nown, cle_obj, cle_off, cle_box, okC, liveA, List.take_succ_cons, List.take_zero, List.all_cons, List.all_nil, List.getElem?_cons_zero, List.getElem?_cons_succ, isO_owM, isO_own, isO_nown, TC.isB, beq_self_eq_true, Bool.and_self, Bool.and_true, ok1, ok2, List.map_cons, List.map_nil]) : ResO P fn n R t st := reso2 hr hn hc h1 hz1 h2 hz2 hok h
theorem reso3Y {fn : Func} {n : Nat} {R : AV → List TK → Prop} {r1 r2 r3 : ResultVar} {z1 y1 z2 y2 z3 y3 : AV} (hr : fn.results = #[r1, r2, r3]) (h1 : ResV P t st r1 z1) (hz1 : resO1 n st z1 = some y1) (h2 : ResV P t st r2 z2) (hz2 : resO1 n st z2 = some y2) (h3 : ResV P t st r3 z3) (hz3 : resO1 n st z3 = some y3) (h : R (.tu [y1, y2, y3]) (st.take n)) (hn : n ≤ st.length := by exact Nat.le_of_ble_eq_true rfl) (hc : cleanS (st.take n) = true := by simp only [SltT3, SltT, fat_ren, fat_all, cleanS, cle_owM, cle_own, cle_nown, cle_obj, cle_off, cle_box, okC, liveA, List.take_succ_cons, List.take_zero, List.all_cons, List.all_nil, List.getElem?_cons_zero, List.getElem?_cons_succ, isO_owM, isO_own, isO_nown, TC.isB, beq_self_eq_true, Bool.and_self, Bool.and_true, ok1, ok2, List.map_cons, List.map_nil]) (hok : ok2 (st.take n) (.tu [y1, y2, y3]) = true := by simp only [SltT3, SltT, fat_ren, fat_all, cleanS, cle_owM, cle_own, cle_nown, cle_obj, cle_off, cle_box, okC, liveA, List.take_succ_cons, List.take_zero, List.all_cons, List.all_nil, List.getElem?_cons_zero, List.getElem?_cons_succ, isO_owM, isO_own, isO_nown, TC.isB, beq_self_eq_true, Bool.and_self, Bool.and_true, ok1, ok2, List.map_cons, List.map_nil]) : ResO P fn n R t st := reso3 hr hn hc h1 hz1 h2 hz2 h3 hz3 hok h
end
theorem sbytes_o (h : Nat) (hb : S.bytes.length ≤ 1099511627776) : ACo Try.prog 52 [.bx 0 g 0] (SltT3 g G t S d ⟨h, .off⟩) (fun y os' => y = .ow 2 (h + 1 + 1) ∧ os' = SltT3 g G t S d ⟨h + 1 + 1, .own 5 1 (byA S.bytes)⟩) := by
  refine ACo.of' (st0 := [⟨g, .box 119 (fatC [.bx 1 G 0] t [.sc (.int .i64 S.file), .sc (.int .i64 S.counts), .sc (.int .i64 S.epoch), .sl (byA S.bytes), .sc (.bool S.down)])⟩, ⟨G, .obj (DiskP d)⟩, ⟨h, .off⟩, TK.mk 0 .off, TK.mk 0 .off]) 10 2 Try.func52 rfl 3 ?_
  refine AW.seq ?_
  refine AW.region ?_
  refine AL.ra ?_
  refine AL.nil ?_
  change AW _ _ _ _ _
  refine AW.seq ?_
  refine AW.seq ?_
  refine AW.region ?_
  refine AL.rm ?_
  refine AL.r (rd_peq_bx rfl pt_70 rfl rfl rfl) ?_
  refine AL.nil ?_
  change AW _ _ _ _ _
  refine AW.cond_f rfl ?_
  refine AW.skip ?_
  change AW _ _ _ _ _
  refine AW.seq ?_
  refine AW.region ?_
  refine AL.op rfl (AOpB.op (bs_own 2 rfl ap_29 ze_5 rfl rfl rfl ?_))
  refine AL.no ?_
  refine AL.rm ?_
  refine AL.r (rd_nilc_bx rfl rfl rfl) ?_
  refine AL.r (rd_faddr_bx rfl fo_119_5 rfl rfl ⟨_, _, rfl⟩) ?_
  refine AL.r (rd_load_bx rfl ag_29 rfl rfl (fat_post 3 rfl rfl)) ?_
  refine AL.op rfl (op_append rfl ap_29 rfl rfl (src_s rfl) (by simp only [byA_len, List.length_nil]; omega) (by simp only [byA_len, List.length_nil]; omega) ?_)
  refine AL.no ?_
  refine AL.ra ?_
  refine AL.nil ?_
  change AW _ _ _ _ _
  refine AW.ret ?_
  repeat with_reducible first | refine thenA_ret ?_ | refine inBlockA_ret ?_
  with_reducible first | refine retO_ret ?_ | refine retO_normal ?_
  refine reso1Z rfl (ResV.tmp rfl) (by first | exact resO_owM (by decide) rfl | exact resO_own (by decide) rfl | exact resO_set (by decide) rfl | exact resO_setM (by decide) rfl) ?_
  exact ⟨rfl, rfl⟩
theorem sput_dn (ht : ∀ i, i < 256 → t i < 4294967296) {k : Nat} (hd : d.Ok k) (hk : k ≤ 900000) {f c e : Nat} (hS : S.At f c e) (hdn : (S.down || d.dark) = true) (b : List UInt8) : ACo Try.prog 55 [.bx 0 g 0, .sl (byA b)] (SltT g G t S d) (fun y os' => y = .sc (.int .i64 10) ∧ os' = SltT g G t { S with down := true } d) := by
  have := sput_c g G t ht S d hd hk hS b
  obtain ⟨e1, e2, e3⟩ := put_dn (t := t) (f := f) (c := c) (e := e) (b := b) hdn
  rwa [e1, e2, e3] at this
end
section
variable (f : Nat) (b : List UInt8)
def nS0 : SltD := ⟨f, 1, 0, [], false⟩
def nS1 : SltD := sputS byteN (nS0 f) (newD 1000) f 1 0 b
def nD1 : DiskD := sputD byteN (nS0 f) (newD 1000) f 1 0 b
def nD2 : DiskD := syncD (fuseD (nD1 f b) 0)
variable (hf : f < 3) (hb : b.length ≤ 300)
include hf
theorem nw0 : Sw byteN f 1000 0 (fun _ => []) (nS0 f) (newD 1000) 1 0 [] := ⟨rest_new (by omega), ⟨rfl, rfl, rfl, hf, by omega, by omega⟩, rfl, rfl, si_new byteN f rfl rfl⟩
include hb
theorem nw1 : sputR byteN (nS0 f) (newD 1000) f 1 0 b = 0 ∧ Sw byteN f 1000 2 (upd (fun _ => []) (f + (1 - 1)) (frameN byteN (snapN (0 + 1) b))) (nS1 f b) (nD1 f b) 0 1 b := by
  rcases (nw0 f hf).put (x := b) (by omega) (by omega) (by simp [tot]; omega) with h | ⟨_, h, _⟩
  · exact ⟨h.1, h.2.1⟩
  · cases h
theorem nD2_ok : (fuseD (nD1 f b) 0).Ok 2 ∧ (nD2 f b).Ok 2 ∧ (nD2 f b).dark = true := by
  have h := (nw1 f b hf hb).2.rest.fuse 0 (by omega)
  refine ⟨h.gro.ok, h.gro.ok.sync, ?_⟩
  have e : burnN (fuseD (nD1 f b) 0) 1 = 0 ∧ (burnD (fuseD (nD1 f b) 0) 1).dark = true := ⟨rfl, rfl⟩
  show (syncD (fuseD (nD1 f b) 0)).dark = true
  rw [(sync_burn h.dark e.1).2]
  exact e.2
end
set_option maxHeartbeats 1000000 in
theorem slotsNil_in (b : List UInt8) (f : Nat) (hf : f < 3) : AC Try.prog 12 [.sl (byA b), .sc (.int .i64 (f : Int))] (fun r => r = .s (.sc (.bool true))) := by
  refine AC.of' 137 5 Try.func12 rfl ?_
  change AW _ _ _ _ [TK.mk 0 .off, TK.mk 0 .off, TK.mk 0 .off, TK.mk 0 .off, TK.mk 0 .off]
  refine AW.seq ?_
  refine AW.region ?_
  refine AL.ra ?_
  refine AL.nil ?_
  change AW _ _ _ _ _
  refine AW.seq ?_
  refine AW.seq ?_
  refine AW.region ?_
  refine AL.op rfl (AOpB.op (op_call (awake11_c) rfl (by kernel_rfl) rfl (none) ?_))
  rintro r rfl
  refine AL.no ?_
  refine AL.r (rd_un rfl rfl (fun _ => rfl)) ?_
  refine AL.nil ?_
  change AW _ _ _ _ _
  refine AW.cond_f rfl ?_
  refine AW.skip ?_
  change AW _ _ _ _ _
  refine AW.seq ?_
  refine AW.seq ?_
  refine AW.region ?_
  refine AL.rm ?_
  refine AL.r (rd_len_sl rfl el_29 rfl) ?_
  refine AL.r (rd_bin rfl rfl rfl (fun _ => rfl)) ?_
  refine AL.nil ?_
  change AW _ _ _ _ _
  refine AW.cd rfl (fun h21 => ?_) (fun h21 => ?_)
  ·skip
   refine AW.seq ?_
   refine AW.region ?_
   refine AL.ra ?_
   refine AL.nil ?_
   change AW _ _ _ _ _
   refine AW.ret ?_
   change ResA _ _ _ _ _
   refine res1 rfl (ResV.tmp rfl) rfl ?_
   rfl
  ·skip
   refine AW.skip ?_
   change AW _ _ _ _ _
   refine AW.seq ?_
   refine AW.region ?_
   refine AL.op rfl (AOpB.op (op_call (made_c) rfl (by kernel_rfl) rfl (none) ?_))
   rintro r rfl
   refine AL.no ?_
   refine AL.op rfl (AOpB.op (op_taballoc 4 rfl rfl ?_))
   refine AL.no ?_
   refine AL.op rfl (op_tabstore rfl rfl rfl (tabA_len _) rfl sz_Table ?_)
   refine AL.no ?_
   refine AL.nil ?_
   change AW _ _ _ _ _
   refine AW.seq ?_
   refine AW.region ?_
   refine AL.ra ?_
   refine AL.nil ?_
   change AW _ _ _ _ _
   refine AW.seq ?_
   refine AW.region ?_
   refine AL.r (rd_tab0 rfl ag_53 rfl rfl) ?_
   refine AL.rm ?_
   refine AL.op rfl (AOpB.op (op_call (sopen_nil byteN f) rfl (by kernel_rfl) rfl (none) ?_))
   rintro r rfl
   refine AL.no ?_
   refine AL.rm ?_
   refine AL.r (rd_extract rfl rfl rfl) ?_
   refine AL.r (rd_extract rfl rfl rfl) ?_
   refine AL.ra ?_
   refine AL.ra ?_
   refine AL.nil ?_
   change AW _ _ _ _ _
   refine AW.seq ?_
   refine AW.seq ?_
   refine AW.region ?_
   refine AL.rm ?_
   refine AL.r (rd_bin rfl rfl rfl (fun _ => rfl)) ?_
   refine AL.rm ?_
   refine AL.fk (d := 31) rfl (fun h31 => ?_) (fun h31 => ?_)
   ·skip
    refine AL.n ?_
    refine AL.rf ?_
    refine AL.rf ?_
    refine AL.r (rd_pick_t rfl rfl rfl) ?_
    refine AL.rm ?_
    refine AL.rf ?_
    refine AL.rf ?_
    refine AL.rf ?_
    refine AL.rf ?_
    refine AL.r (rd_pick_t rfl rfl rfl) ?_
    refine AL.rm ?_
    refine AL.rf ?_
    refine AL.rf ?_
    refine AL.rf ?_
    refine AL.r (rd_pick_t rfl rfl rfl) ?_
    refine AL.rm ?_
    refine AL.rf ?_
    refine AL.rf ?_
    refine AL.rf ?_
    refine AL.rf ?_
    refine AL.r (rd_pick_t rfl rfl rfl) ?_
    refine AL.nil ?_
    change AW _ _ _ _ _
    refine AW.cond_t rfl ?_
    refine AW.seq ?_
    first | (simp at h31; done) | (simp at h35; done) | (simp at h41; done) | (simp at h46; done) | (simp at h51; done)
   ·skip
    refine AL.n ?_
    refine AL.ro (rd_move rfl rfl) ?_
    refine AL.ro (rd_bin rfl rfl rfl (fun _ => rfl)) ?_
    refine AL.r (rd_pick_f rfl rfl rfl) ?_
    refine AL.rm ?_
    refine AL.fk (d := 35) rfl (fun h35 => ?_) (fun h35 => ?_)
    ·skip
     refine AL.n ?_
     refine AL.rf ?_
     refine AL.rf ?_
     refine AL.rf ?_
     refine AL.rf ?_
     refine AL.r (rd_pick_t rfl rfl rfl) ?_
     refine AL.rm ?_
     refine AL.rf ?_
     refine AL.rf ?_
     refine AL.rf ?_
     refine AL.r (rd_pick_t rfl rfl rfl) ?_
     refine AL.rm ?_
     refine AL.rf ?_
     refine AL.rf ?_
     refine AL.rf ?_
     refine AL.rf ?_
     refine AL.r (rd_pick_t rfl rfl rfl) ?_
     refine AL.nil ?_
     change AW _ _ _ _ _
     refine AW.cond_t rfl ?_
     refine AW.seq ?_
     first | (simp at h31; done) | (simp at h35; done) | (simp at h41; done) | (simp at h46; done) | (simp at h51; done)
    ·skip
     refine AL.n ?_
     refine AL.ro (rd_move rfl rfl) ?_
     refine AL.ro (rd_move rfl rfl) ?_
     refine AL.on rfl rfl rfl (AOpB.op (op_call (nil_sput b) rfl (by kernel_rfl) rfl (none) ?_))
     rintro r rfl
     refine AL.no ?_
     refine AL.ro (rd_bin rfl rfl rfl (fun _ => rfl)) ?_
     refine AL.r (rd_pick_f rfl rfl rfl) ?_
     refine AL.rm ?_
     refine AL.ro (rd_move rfl rfl) ?_
     refine AL.on rfl rfl rfl (AOpB.op (op_call (nil_sepoch) rfl (by kernel_rfl) rfl (none) ?_))
     rintro r rfl
     refine AL.no ?_
     refine AL.ro (rd_bin rfl rfl rfl (fun _ => rfl)) ?_
     refine AL.r (rd_pick_f rfl rfl rfl) ?_
     refine AL.rm ?_
     refine AL.ro (rd_move rfl rfl) ?_
     refine AL.on rfl rfl rfl (AOpB.op (op_call (nil_sbytes) rfl (by kernel_rfl) rfl (none) ?_))
     rintro r rfl
     refine AL.no ?_
     refine AL.ro (rd_len_sl rfl el_29 rfl) ?_
     refine AL.ro (rd_bin rfl rfl rfl (fun _ => rfl)) ?_
     refine AL.r (rd_pick_f rfl rfl rfl) ?_
     refine AL.nil ?_
     change AW _ _ _ _ _
     refine AW.cd rfl (fun h51 => ?_) (fun h51 => ?_)
     ·skip
      refine AW.seq ?_
      first | (simp at h31; done) | (simp at h35; done) | (simp at h41; done) | (simp at h46; done) | (simp at h51; done)
     ·skip
      refine AW.skip ?_
      change AW _ _ _ _ _
      refine AW.seq ?_
      refine AW.region ?_
      have hb : b.length ≤ 300 := (by omega)
      obtain ⟨w1, w2⟩ := nw1 f b hf hb; obtain ⟨k1, k2, k3⟩ := nD2_ok f b hf hb
      refine AL.op rfl (calloY (od_new 1000 (by omega) 0) [0] ?_)
      rintro y os' ⟨rfl, rfl⟩
      refine AL.noY ?_
      refine AL.rm ?_
      refine AL.r (rd_extract rfl rfl rfl) ?_
      refine AL.r (rd_extract rfl rfl rfl) ?_
      refine AL.ra ?_
      refine AL.ra ?_
      refine AL.nil ?_
      change AW _ _ _ _ _
      refine AW.seq ?_
      refine AW.region ?_
      refine AL.rm ?_
      refine AL.r (rd_tab0 rfl ag_53 rfl rfl) ?_
      refine AL.rm ?_
      refine AL.op rfl (calloY (sopen_v byteN byte_tab (newD 1000) (nw0 f hf).rest.gro.ok (by omega) 1 0 f hf rfl ((nw0 f hf).si.opened (d := newD 1000)) rfl rfl) [0, 1] ?_)
      rintro y os' ⟨rfl, rfl⟩
      refine AL.noY ?_
      refine AL.rm ?_
      refine AL.r (rd_extract rfl rfl rfl) ?_
      refine AL.r (rd_extract rfl rfl rfl) ?_
      refine AL.ra ?_
      refine AL.ra ?_
      refine AL.nil ?_
      change AW _ _ _ _ _
      refine AW.seq ?_
      refine AW.seq ?_
      refine AW.region ?_
      refine AL.rm ?_
      refine AL.r (rd_bin rfl rfl rfl (fun _ => rfl)) ?_
      refine AL.rm ?_
      refine AL.fk (d := 65) rfl (fun h65 => ?_) (fun h65 => ?_)
      ·skip
       refine AL.n ?_
       refine AL.rf ?_
       refine AL.rf ?_
       refine AL.r (rd_pick_t rfl rfl rfl) ?_
       refine AL.nil ?_
       change AW _ _ _ _ _
       refine AW.cond_t rfl ?_
       refine AW.seq ?_
       omega
      ·skip
       refine AL.n ?_
       refine AL.ro (rd_move rfl rfl) ?_
       refine AL.ro (rd_bin rfl rfl rfl (fun _ => rfl)) ?_
       refine AL.r (rd_pick_f rfl rfl rfl) ?_
       refine AL.nil ?_
       change AW _ _ _ _ _
       refine AW.cd rfl (fun h68 => ?_) (fun h68 => ?_)
       ·skip
        refine AW.seq ?_
        omega
       ·skip
        refine AW.skip ?_
        change AW _ _ _ _ _
        refine AW.seq ?_
        refine AW.seq ?_
        refine AW.region ?_
        refine AL.rm ?_
        refine AL.rm ?_
        refine AL.op rfl (calloY (lval (sput_c 1 1 byteN byte_tab (nS0 f) (newD 1000) (nw0 f hf).rest.gro.ok (by omega) (nw0 f hf).pos b) w1) [1, 0] ?_)
        rintro y os' ⟨rfl, rfl⟩
        refine AL.noY ?_
        refine AL.r (rd_bin rfl rfl rfl (fun _ => rfl)) ?_
        refine AL.nil ?_
        change AW _ _ _ _ _
        refine AW.cond_f rfl ?_
        refine AW.skip ?_
        change AW _ _ _ _ _
        refine AW.seq ?_
        refine AW.region ?_
        refine AL.rm ?_
        refine AL.op rfl (calloY (sbytes_o 1 1 byteN (nS1 f b) (nD1 f b) 0 (by rw [w2.bytes]; omega)) [1, 0, 2] ?_)
        rintro y os' ⟨rfl, rfl⟩
        refine AL.noY ?_
        refine AL.ra ?_
        refine AL.nil ?_
        change AW _ _ _ _ _
        refine AW.join (ι := Unit) [81, 82, 83, 84, 85, 86, 87, 88, 89] (fun u1 => []) [2] (fun u1 => []) (fun u1 => True) ?_ ?_
        ·skip
         refine AW.seq ?_
         refine AW.region ?_
         rw [w2.bytes]
         refine AL.rm ?_
         refine AL.r (rd_len_ow rfl el_29 rfl rfl) ?_
         refine AL.r (rd_bin rfl rfl rfl (fun _ => rfl)) ?_
         refine AL.nil ?_
         change AW _ _ _ _ _
         refine AW.cd rfl (fun h83 => ?_) (fun h83 => ?_)
         ·skip
          refine AW.region ?_
          refine AL.rm ?_
          refine AL.rm ?_
          refine AL.r (rd_iaddr_ow rfl el_29 rfl rfl rfl rfl (by simp only [byA_len]; omega)) ?_
          refine AL.r (rd_load_bo rfl ag_5 rfl rfl (i := 0) (j := 0) rfl (byA_at0 (by omega)) rfl) ?_
          refine AL.r (rd_arith_add rfl rfl rfl (by first | exact IntWalk.i64_in _ (by omega) | rfl)) ?_
          refine AL.r (rd_iaddr_ow rfl el_29 rfl rfl rfl rfl (by simp only [byA_len]; omega)) ?_
          refine AL.op rfl (op_store_bo rfl rfl rfl rfl rfl rfl sz_5 (by simp only [byA_len, List.length_cons, List.length_nil]; omega) ?_)
          refine AL.no ?_
          refine AL.nil ?_
          refine ⟨(), trivial, (by simp only [anys, upds, offs, List.set_cons_zero, List.set_cons_succ]; repeat (first | exact Wk.nil | refine Wk.same ?_ | refine Wk.any ?_)), (by simp only [anys, upds, offs, List.set_cons_zero, List.set_cons_succ]; repeat (first | exact Sk.nil _ | refine Sk.same _ ?_ | refine Sk.scr _ (by decide) ?_))⟩
         ·skip
          refine AW.skip ?_
          refine ⟨(), trivial, (by simp only [anys, upds, offs, List.set_cons_zero, List.set_cons_succ]; repeat (first | exact Wk.nil | refine Wk.same ?_ | refine Wk.any ?_)), (by simp only [anys, upds, offs, List.set_cons_zero, List.set_cons_succ]; repeat (first | exact Sk.nil _ | refine Sk.same _ ?_ | refine Sk.scr _ (by decide) ?_))⟩
        ·rintro u1 gs83 hJ83
         refine AW.norm (by simp only [anys, upds, offs, List.set_cons_zero, List.set_cons_succ]; rfl) (by (try simp only [anys, upds, offs, List.set_cons_zero, List.set_cons_succ]); (try rfl)) ?_
         (try dsimp only at hJ83)
         change AW _ _ _ _ _
         refine AW.seq ?_
         refine AW.region ?_
         refine AL.rm ?_
         refine AL.op rfl (calloY (od_fuse (nD1 f b) 1 0) [0] ?_)
         rintro y os' ⟨rfl, rfl⟩
         refine AL.noY ?_
         refine AL.nil ?_
         change AW _ _ _ _ _
         refine AW.seq ?_
         refine AW.region ?_
         refine AL.rm ?_
         refine AL.op rfl (calloY (ok_sync k1 (by omega) 1) [0] ?_)
         rintro y os' ⟨rfl, rfl⟩
         refine AL.noY ?_
         refine AL.nil ?_
         change AW _ _ _ _ _
         refine AW.seq ?_
         refine AW.region ?_
         refine AL.rm ?_
         refine AL.r (rd_tab0 rfl ag_53 rfl rfl) ?_
         refine AL.rm ?_
         refine AL.op rfl (calloY (sopen_dark byteN (nD2 f b) k2 (by omega) 1 0 f hf k3) [0, 3] ?_)
         rintro y os' ⟨tk, rfl, rfl⟩
         refine AL.noY ?_
         refine AL.rm ?_
         refine AL.r (rd_extract rfl rfl rfl) ?_
         refine AL.r (rd_extract rfl rfl rfl) ?_
         refine AL.ra ?_
         refine AL.ra ?_
         refine AL.nil ?_
         change AW _ _ _ _ _
         refine AW.seq ?_
         refine AW.region ?_
         refine AL.rm ?_
         refine AL.rm ?_
         refine AL.op rfl (calloY (sput_dn 1 1 byteN (nS1 f b) (nD2 f b) byte_tab k2 (by omega) w2.pos (by rw [k3, Bool.or_true]) b) [1, 0] ?_)
         rintro y os' ⟨rfl, rfl⟩
         refine AL.noY ?_
         refine AL.ra ?_
         refine AL.nil ?_
         change AW _ _ _ _ _
         refine AW.seq ?_
         refine AW.region ?_
         refine AL.rm ?_
         refine AL.op rfl (calloY (ok_crash k2 (by omega) 1 0 (by omega)) [0] ?_)
         rintro y os' ⟨rfl, rfl⟩
         refine AL.noY ?_
         refine AL.nil ?_
         change AW _ _ _ _ _
         refine AW.seq ?_
         refine AW.drawA (by kernel_rfl) ?_
         refine ADA.r 0 rfl (ARdP.a (rdP_move rfl rfl)) rfl ?_
         refine ADA.r 1 rfl (ARdP.a (rdP_bin rfl rfl rfl (fun _ => rfl))) rfl ?_
         refine ADA.r 2 rfl (ARdP.a (rdP_move rfl rfl)) rfl ?_
         refine ADA.r 3 rfl (ARdP.a (rdP_move rfl rfl)) ⟨_, _, rfl, rfl, rfl⟩ ?_
         refine ADA.r 6 rfl (ARdP.a (rdP_move rfl rfl)) ⟨_, _, rfl, rfl, rfl⟩ ?_
         refine ADA.b ?_
         refine ADB.all (is := [4, 7]) (by kernel_rfl) (by simp) ?_
         intro i hi
         simp only [List.mem_cons, List.not_mem_nil, or_false] at hi
         rcases hi with rfl | rfl
         ·skip
          refine ⟨_, rfl, ⟨_, _, rfl, rfl, rfl⟩, calloY (sbytes_v 1 1 byteN { nS1 f b with down := true } (crashD (nD2 f b) 0) w2.bytes (by omega)) [1, 0] ?_⟩
          rintro y os' ⟨rfl, rfl⟩
          refine ADB.noY ?_
          refine ADB.all (is := [5, 7]) (by kernel_rfl) (by simp) ?_
          intro i hi
          simp only [List.mem_cons, List.not_mem_nil, or_false] at hi
          rcases hi with rfl | rfl
          ·skip
           refine ⟨_, rfl, ⟨_, _, rfl, rfl, rfl⟩, AOpB.op (ARd.opB (rd_b2s rfl (by kernel_rfl) (src_s rfl)) ?_)⟩
           refine ADB.n ?_
           refine ADB.mv 7 rfl (AOpB.op (ARd.opB (rd_b2s rfl (by kernel_rfl) (src_s rfl)) ?_))
           refine ADB.n ?_
           refine ADB.r 8 rfl (rdP_seq rfl rfl rfl) ⟨_, _, rfl, rfl, rfl⟩ ?_
           refine ADB.r 9 rfl (rdP_pick_t rfl rfl rfl) rfl ?_
           refine ADB.r 10 rfl (rdP_move rfl rfl) rfl ?_
           refine ADB.fk (d := 116) rfl (fun h116 => ?_) (fun h116 => ?_)
           ·skip
            refine ADB.n ?_
            refine ADB.r 11 rfl (rdP_move rfl rfl) ⟨_, _, rfl, rfl, rfl⟩ ?_
            refine ADB.mv 12 rfl (AOpB.op (ARd.opB (rd_peq_nil rfl pt_70 rfl rfl) ?_))
            refine ADB.n ?_
            refine ADB.r 13 rfl (rdP_pick_t rfl rfl rfl) rfl ?_
            refine ADB.r 14 rfl (rdP_move rfl rfl) rfl ?_
            refine ADB.r 15 rfl (rdP_move rfl rfl) ⟨_, _, rfl, rfl, rfl⟩ ?_
            refine ADB.r 16 rfl (rdP_bin rfl rfl rfl (fun _ => rfl)) ⟨_, _, rfl, rfl, rfl⟩ ?_
            refine ADB.r 17 rfl (rdP_pick_t rfl rfl rfl) rfl ?_
            refine ADB.r 18 rfl (rdP_move rfl rfl) rfl ?_
            refine ADB.r 19 rfl (rdP_move rfl rfl) ⟨_, _, rfl, rfl, rfl⟩ ?_
            refine ADB.r 20 rfl (rdP_bin rfl rfl rfl (fun _ => rfl)) ⟨_, _, rfl, rfl, rfl⟩ ?_
            refine ADB.r 21 rfl (rdP_pick_t rfl rfl rfl) rfl ?_
            refine ADB.r 22 rfl (rdP_move rfl rfl) rfl ?_
            refine ADB.r 23 rfl (rdP_move rfl rfl) ⟨_, _, rfl, rfl, rfl⟩ ?_
            refine ADB.r 24 rfl (rdP_move rfl rfl) ⟨_, _, rfl, rfl, rfl⟩ ?_
            refine ADB.mv 25 rfl (calloY (sput_dn 1 1 byteN { nS1 f b with down := true } (crashD (nD2 f b) 0) byte_tab (k2.crash 0) (by omega) ⟨w2.pos.file, w2.pos.counts, w2.pos.epoch, w2.pos.f3, w2.pos.c2, w2.pos.le⟩ rfl b) [1, 0] ?_)
            rintro y os' ⟨rfl, rfl⟩
            refine ADB.noY ?_
            refine ADB.r 26 rfl (rdP_bin rfl rfl rfl (fun _ => rfl)) ⟨_, _, rfl, rfl, rfl⟩ ?_
            refine ADB.r 27 rfl (rdP_pick_t rfl rfl rfl) rfl ?_
            refine ADB.r 28 rfl (rdP_move rfl rfl) rfl ?_
            refine ADB.r 29 rfl (rdP_move rfl rfl) ⟨_, _, rfl, rfl, rfl⟩ ?_
            refine ADB.mv 30 rfl (calloY (lval (sepoch_c 1 1 byteN { nS1 f b with down := true } (crashD (nD2 f b) 0)) w2.pos.epoch) [1, 0] ?_)
            rintro y os' ⟨rfl, rfl⟩
            refine ADB.noY ?_
            refine ADB.r 31 rfl (rdP_bin rfl rfl rfl (fun _ => rfl)) ⟨_, _, rfl, rfl, rfl⟩ ?_
            refine ADB.r 32 rfl (rdP_pick_t rfl rfl rfl) rfl ?_
            refine ADB.r 33 rfl (rdP_assign rfl rfl) rfl ?_
            refine ADB.done (by kernel_rfl) ?_
            change AW _ _ _ _ _
            refine AW.ret ?_
            change ResA _ _ _ _ _
            refine res1 rfl (ResV.tmp rfl) rfl ?_
            first | rfl | simp
           ·skip
            exact (h116 trivial).elim
          ·skip
           refine ⟨_, rfl, ⟨_, _, rfl, rfl, rfl⟩, AOpB.op (ARd.opB (rd_b2s rfl (by kernel_rfl) (src_s rfl)) ?_)⟩
           refine ADB.n ?_
           refine ADB.mv 5 rfl (AOpB.op (ARd.opB (rd_b2s rfl (by kernel_rfl) (src_s rfl)) ?_))
           refine ADB.n ?_
           refine ADB.r 8 rfl (rdP_seq rfl rfl rfl) ⟨_, _, rfl, rfl, rfl⟩ ?_
           refine ADB.r 9 rfl (rdP_pick_t rfl rfl rfl) rfl ?_
           refine ADB.r 10 rfl (rdP_move rfl rfl) rfl ?_
           refine ADB.fk (d := 116) rfl (fun h116 => ?_) (fun h116 => ?_)
           ·skip
            refine ADB.n ?_
            refine ADB.r 11 rfl (rdP_move rfl rfl) ⟨_, _, rfl, rfl, rfl⟩ ?_
            refine ADB.mv 12 rfl (AOpB.op (ARd.opB (rd_peq_nil rfl pt_70 rfl rfl) ?_))
            refine ADB.n ?_
            refine ADB.r 13 rfl (rdP_pick_t rfl rfl rfl) rfl ?_
            refine ADB.r 14 rfl (rdP_move rfl rfl) rfl ?_
            refine ADB.r 15 rfl (rdP_move rfl rfl) ⟨_, _, rfl, rfl, rfl⟩ ?_
            refine ADB.r 16 rfl (rdP_bin rfl rfl rfl (fun _ => rfl)) ⟨_, _, rfl, rfl, rfl⟩ ?_
            refine ADB.r 17 rfl (rdP_pick_t rfl rfl rfl) rfl ?_
            refine ADB.r 18 rfl (rdP_move rfl rfl) rfl ?_
            refine ADB.r 19 rfl (rdP_move rfl rfl) ⟨_, _, rfl, rfl, rfl⟩ ?_
            refine ADB.r 20 rfl (rdP_bin rfl rfl rfl (fun _ => rfl)) ⟨_, _, rfl, rfl, rfl⟩ ?_
            refine ADB.r 21 rfl (rdP_pick_t rfl rfl rfl) rfl ?_
            refine ADB.r 22 rfl (rdP_move rfl rfl) rfl ?_
            refine ADB.r 23 rfl (rdP_move rfl rfl) ⟨_, _, rfl, rfl, rfl⟩ ?_
            refine ADB.r 24 rfl (rdP_move rfl rfl) ⟨_, _, rfl, rfl, rfl⟩ ?_
            refine ADB.mv 25 rfl (calloY (sput_dn 1 1 byteN { nS1 f b with down := true } (crashD (nD2 f b) 0) byte_tab (k2.crash 0) (by omega) ⟨w2.pos.file, w2.pos.counts, w2.pos.epoch, w2.pos.f3, w2.pos.c2, w2.pos.le⟩ rfl b) [1, 0] ?_)
            rintro y os' ⟨rfl, rfl⟩
            refine ADB.noY ?_
            refine ADB.r 26 rfl (rdP_bin rfl rfl rfl (fun _ => rfl)) ⟨_, _, rfl, rfl, rfl⟩ ?_
            refine ADB.r 27 rfl (rdP_pick_t rfl rfl rfl) rfl ?_
            refine ADB.r 28 rfl (rdP_move rfl rfl) rfl ?_
            refine ADB.r 29 rfl (rdP_move rfl rfl) ⟨_, _, rfl, rfl, rfl⟩ ?_
            refine ADB.mv 30 rfl (calloY (lval (sepoch_c 1 1 byteN { nS1 f b with down := true } (crashD (nD2 f b) 0)) w2.pos.epoch) [1, 0] ?_)
            rintro y os' ⟨rfl, rfl⟩
            refine ADB.noY ?_
            refine ADB.r 31 rfl (rdP_bin rfl rfl rfl (fun _ => rfl)) ⟨_, _, rfl, rfl, rfl⟩ ?_
            refine ADB.r 32 rfl (rdP_pick_t rfl rfl rfl) rfl ?_
            refine ADB.r 33 rfl (rdP_assign rfl rfl) rfl ?_
            refine ADB.done (by kernel_rfl) ?_
            change AW _ _ _ _ _
            refine AW.ret ?_
            change ResA _ _ _ _ _
            refine res1 rfl (ResV.tmp rfl) rfl ?_
            first | rfl | simp
           ·skip
            exact (h116 trivial).elim
         ·skip
          refine ⟨_, rfl, ⟨_, _, rfl, rfl, rfl⟩, AOpB.op (ARd.opB (rd_b2s rfl (by kernel_rfl) (src_s rfl)) ?_)⟩
          refine ADB.n ?_
          refine ADB.mv 4 rfl (calloY (sbytes_v 1 1 byteN { nS1 f b with down := true } (crashD (nD2 f b) 0) w2.bytes (by omega)) [1, 0] ?_)
          rintro y os' ⟨rfl, rfl⟩
          refine ADB.noY ?_
          refine ADB.mv 5 rfl (AOpB.op (ARd.opB (rd_b2s rfl (by kernel_rfl) (src_s rfl)) ?_))
          refine ADB.n ?_
          refine ADB.r 8 rfl (rdP_seq rfl rfl rfl) ⟨_, _, rfl, rfl, rfl⟩ ?_
          refine ADB.r 9 rfl (rdP_pick_t rfl rfl rfl) rfl ?_
          refine ADB.r 10 rfl (rdP_move rfl rfl) rfl ?_
          refine ADB.fk (d := 116) rfl (fun h116 => ?_) (fun h116 => ?_)
          ·skip
           refine ADB.n ?_
           refine ADB.r 11 rfl (rdP_move rfl rfl) ⟨_, _, rfl, rfl, rfl⟩ ?_
           refine ADB.mv 12 rfl (AOpB.op (ARd.opB (rd_peq_nil rfl pt_70 rfl rfl) ?_))
           refine ADB.n ?_
           refine ADB.r 13 rfl (rdP_pick_t rfl rfl rfl) rfl ?_
           refine ADB.r 14 rfl (rdP_move rfl rfl) rfl ?_
           refine ADB.r 15 rfl (rdP_move rfl rfl) ⟨_, _, rfl, rfl, rfl⟩ ?_
           refine ADB.r 16 rfl (rdP_bin rfl rfl rfl (fun _ => rfl)) ⟨_, _, rfl, rfl, rfl⟩ ?_
           refine ADB.r 17 rfl (rdP_pick_t rfl rfl rfl) rfl ?_
           refine ADB.r 18 rfl (rdP_move rfl rfl) rfl ?_
           refine ADB.r 19 rfl (rdP_move rfl rfl) ⟨_, _, rfl, rfl, rfl⟩ ?_
           refine ADB.r 20 rfl (rdP_bin rfl rfl rfl (fun _ => rfl)) ⟨_, _, rfl, rfl, rfl⟩ ?_
           refine ADB.r 21 rfl (rdP_pick_t rfl rfl rfl) rfl ?_
           refine ADB.r 22 rfl (rdP_move rfl rfl) rfl ?_
           refine ADB.r 23 rfl (rdP_move rfl rfl) ⟨_, _, rfl, rfl, rfl⟩ ?_
           refine ADB.r 24 rfl (rdP_move rfl rfl) ⟨_, _, rfl, rfl, rfl⟩ ?_
           refine ADB.mv 25 rfl (calloY (sput_dn 1 1 byteN { nS1 f b with down := true } (crashD (nD2 f b) 0) byte_tab (k2.crash 0) (by omega) ⟨w2.pos.file, w2.pos.counts, w2.pos.epoch, w2.pos.f3, w2.pos.c2, w2.pos.le⟩ rfl b) [1, 0] ?_)
           rintro y os' ⟨rfl, rfl⟩
           refine ADB.noY ?_
           refine ADB.r 26 rfl (rdP_bin rfl rfl rfl (fun _ => rfl)) ⟨_, _, rfl, rfl, rfl⟩ ?_
           refine ADB.r 27 rfl (rdP_pick_t rfl rfl rfl) rfl ?_
           refine ADB.r 28 rfl (rdP_move rfl rfl) rfl ?_
           refine ADB.r 29 rfl (rdP_move rfl rfl) ⟨_, _, rfl, rfl, rfl⟩ ?_
           refine ADB.mv 30 rfl (calloY (lval (sepoch_c 1 1 byteN { nS1 f b with down := true } (crashD (nD2 f b) 0)) w2.pos.epoch) [1, 0] ?_)
           rintro y os' ⟨rfl, rfl⟩
           refine ADB.noY ?_
           refine ADB.r 31 rfl (rdP_bin rfl rfl rfl (fun _ => rfl)) ⟨_, _, rfl, rfl, rfl⟩ ?_
           refine ADB.r 32 rfl (rdP_pick_t rfl rfl rfl) rfl ?_
           refine ADB.r 33 rfl (rdP_assign rfl rfl) rfl ?_
           refine ADB.done (by kernel_rfl) ?_
           change AW _ _ _ _ _
           refine AW.ret ?_
           change ResA _ _ _ _ _
           refine res1 rfl (ResV.tmp rfl) rfl ?_
           first | rfl | simp
          ·skip
           exact (h116 trivial).elim
theorem slotsNil_out (b : List UInt8) (f : Int) (hf : ¬(0 ≤ f ∧ f < 3)) : AC Try.prog 12 [.sl (byA b), .sc (.int .i64 f)] (fun r => r = .s (.sc (.bool true))) := by
  refine AC.of' 137 5 Try.func12 rfl ?_
  change AW _ _ _ _ [TK.mk 0 .off, TK.mk 0 .off, TK.mk 0 .off, TK.mk 0 .off, TK.mk 0 .off]
  refine AW.seq ?_
  refine AW.region ?_
  refine AL.ra ?_
  refine AL.nil ?_
  change AW _ _ _ _ _
  refine AW.seq ?_
  refine AW.seq ?_
  refine AW.region ?_
  refine AL.op rfl (AOpB.op (op_call (awake11_c) rfl (by kernel_rfl) rfl (none) ?_))
  rintro r rfl
  refine AL.no ?_
  refine AL.r (rd_un rfl rfl (fun _ => rfl)) ?_
  refine AL.nil ?_
  change AW _ _ _ _ _
  refine AW.cond_f rfl ?_
  refine AW.skip ?_
  change AW _ _ _ _ _
  refine AW.seq ?_
  refine AW.seq ?_
  refine AW.region ?_
  refine AL.rm ?_
  refine AL.r (rd_len_sl rfl el_29 rfl) ?_
  refine AL.r (rd_bin rfl rfl rfl (fun _ => rfl)) ?_
  refine AL.nil ?_
  change AW _ _ _ _ _
  refine AW.cd rfl (fun h21 => ?_) (fun h21 => ?_)
  ·skip
   refine AW.seq ?_
   refine AW.region ?_
   refine AL.ra ?_
   refine AL.nil ?_
   change AW _ _ _ _ _
   refine AW.ret ?_
   change ResA _ _ _ _ _
   refine res1 rfl (ResV.tmp rfl) rfl ?_
   rfl
  ·skip
   refine AW.skip ?_
   change AW _ _ _ _ _
   refine AW.seq ?_
   refine AW.region ?_
   refine AL.op rfl (AOpB.op (op_call (made_c) rfl (by kernel_rfl) rfl (none) ?_))
   rintro r rfl
   refine AL.no ?_
   refine AL.op rfl (AOpB.op (op_taballoc 4 rfl rfl ?_))
   refine AL.no ?_
   refine AL.op rfl (op_tabstore rfl rfl rfl (tabA_len _) rfl sz_Table ?_)
   refine AL.no ?_
   refine AL.nil ?_
   change AW _ _ _ _ _
   refine AW.seq ?_
   refine AW.region ?_
   refine AL.ra ?_
   refine AL.nil ?_
   change AW _ _ _ _ _
   refine AW.seq ?_
   refine AW.region ?_
   refine AL.r (rd_tab0 rfl ag_53 rfl rfl) ?_
   refine AL.rm ?_
   refine AL.op rfl (AOpB.op (op_call (sopen_nil byteN f) rfl (by kernel_rfl) rfl (none) ?_))
   rintro r rfl
   refine AL.no ?_
   refine AL.rm ?_
   refine AL.r (rd_extract rfl rfl rfl) ?_
   refine AL.r (rd_extract rfl rfl rfl) ?_
   refine AL.ra ?_
   refine AL.ra ?_
   refine AL.nil ?_
   change AW _ _ _ _ _
   refine AW.seq ?_
   refine AW.seq ?_
   refine AW.region ?_
   refine AL.rm ?_
   refine AL.r (rd_bin rfl rfl rfl (fun _ => rfl)) ?_
   refine AL.rm ?_
   refine AL.fk (d := 31) rfl (fun h31 => ?_) (fun h31 => ?_)
   ·skip
    refine AL.n ?_
    refine AL.rf ?_
    refine AL.rf ?_
    refine AL.r (rd_pick_t rfl rfl rfl) ?_
    refine AL.rm ?_
    refine AL.rf ?_
    refine AL.rf ?_
    refine AL.rf ?_
    refine AL.rf ?_
    refine AL.r (rd_pick_t rfl rfl rfl) ?_
    refine AL.rm ?_
    refine AL.rf ?_
    refine AL.rf ?_
    refine AL.rf ?_
    refine AL.r (rd_pick_t rfl rfl rfl) ?_
    refine AL.rm ?_
    refine AL.rf ?_
    refine AL.rf ?_
    refine AL.rf ?_
    refine AL.rf ?_
    refine AL.r (rd_pick_t rfl rfl rfl) ?_
    refine AL.nil ?_
    change AW _ _ _ _ _
    refine AW.cond_t rfl ?_
    refine AW.seq ?_
    first | (simp at h31; done) | (simp at h35; done) | (simp at h41; done) | (simp at h46; done) | (simp at h51; done)
   ·skip
    refine AL.n ?_
    refine AL.ro (rd_move rfl rfl) ?_
    refine AL.ro (rd_bin rfl rfl rfl (fun _ => rfl)) ?_
    refine AL.r (rd_pick_f rfl rfl rfl) ?_
    refine AL.rm ?_
    refine AL.fk (d := 35) rfl (fun h35 => ?_) (fun h35 => ?_)
    ·skip
     refine AL.n ?_
     refine AL.rf ?_
     refine AL.rf ?_
     refine AL.rf ?_
     refine AL.rf ?_
     refine AL.r (rd_pick_t rfl rfl rfl) ?_
     refine AL.rm ?_
     refine AL.rf ?_
     refine AL.rf ?_
     refine AL.rf ?_
     refine AL.r (rd_pick_t rfl rfl rfl) ?_
     refine AL.rm ?_
     refine AL.rf ?_
     refine AL.rf ?_
     refine AL.rf ?_
     refine AL.rf ?_
     refine AL.r (rd_pick_t rfl rfl rfl) ?_
     refine AL.nil ?_
     change AW _ _ _ _ _
     refine AW.cond_t rfl ?_
     refine AW.seq ?_
     first | (simp at h31; done) | (simp at h35; done) | (simp at h41; done) | (simp at h46; done) | (simp at h51; done)
    ·skip
     refine AL.n ?_
     refine AL.ro (rd_move rfl rfl) ?_
     refine AL.ro (rd_move rfl rfl) ?_
     refine AL.on rfl rfl rfl (AOpB.op (op_call (nil_sput b) rfl (by kernel_rfl) rfl (none) ?_))
     rintro r rfl
     refine AL.no ?_
     refine AL.ro (rd_bin rfl rfl rfl (fun _ => rfl)) ?_
     refine AL.r (rd_pick_f rfl rfl rfl) ?_
     refine AL.rm ?_
     refine AL.ro (rd_move rfl rfl) ?_
     refine AL.on rfl rfl rfl (AOpB.op (op_call (nil_sepoch) rfl (by kernel_rfl) rfl (none) ?_))
     rintro r rfl
     refine AL.no ?_
     refine AL.ro (rd_bin rfl rfl rfl (fun _ => rfl)) ?_
     refine AL.r (rd_pick_f rfl rfl rfl) ?_
     refine AL.rm ?_
     refine AL.ro (rd_move rfl rfl) ?_
     refine AL.on rfl rfl rfl (AOpB.op (op_call (nil_sbytes) rfl (by kernel_rfl) rfl (none) ?_))
     rintro r rfl
     refine AL.no ?_
     refine AL.ro (rd_len_sl rfl el_29 rfl) ?_
     refine AL.ro (rd_bin rfl rfl rfl (fun _ => rfl)) ?_
     refine AL.r (rd_pick_f rfl rfl rfl) ?_
     refine AL.nil ?_
     change AW _ _ _ _ _
     refine AW.cd rfl (fun h51 => ?_) (fun h51 => ?_)
     ·skip
      refine AW.seq ?_
      first | (simp at h31; done) | (simp at h35; done) | (simp at h41; done) | (simp at h46; done) | (simp at h51; done)
     ·skip
      refine AW.skip ?_
      change AW _ _ _ _ _
      refine AW.seq ?_
      refine AW.region ?_
      refine AL.op rfl (calloZ (od_new 1000 (by omega) 0) [0] ?_)
      rintro y os' ⟨rfl, rfl⟩
      refine AL.noZ ?_
      refine AL.rm ?_
      refine AL.r (rd_extract rfl rfl rfl) ?_
      refine AL.r (rd_extract rfl rfl rfl) ?_
      refine AL.ra ?_
      refine AL.ra ?_
      refine AL.nil ?_
      change AW _ _ _ _ _
      refine AW.seq ?_
      refine AW.region ?_
      refine AL.rm ?_
      refine AL.r (rd_tab0 rfl ag_53 rfl rfl) ?_
      refine AL.rm ?_
      refine AL.op rfl (calloZ (sopen_out byteN (newD 1000) 1 0 f hf) [0, 1] ?_)
      rintro y os' ⟨rfl, rfl⟩
      refine AL.noZ ?_
      refine AL.rm ?_
      refine AL.r (rd_extract rfl rfl rfl) ?_
      refine AL.r (rd_extract rfl rfl rfl) ?_
      refine AL.ra ?_
      refine AL.ra ?_
      refine AL.nil ?_
      change AW _ _ _ _ _
      refine AW.seq ?_
      refine AW.seq ?_
      refine AW.region ?_
      refine AL.rm ?_
      refine AL.r (rd_bin rfl rfl rfl (fun _ => rfl)) ?_
      refine AL.rm ?_
      refine AL.fk (d := 65) rfl (fun h65 => ?_) (fun h65 => ?_)
      ·skip
       refine AL.n ?_
       refine AL.rf ?_
       refine AL.rf ?_
       refine AL.r (rd_pick_t rfl rfl rfl) ?_
       refine AL.nil ?_
       change AW _ _ _ _ _
       refine AW.cond_t rfl ?_
       refine AW.seq ?_
       refine AW.region ?_
       refine AL.rm ?_
       refine AL.r (rd_peq_nil rfl pt_70 rfl rfl) ?_
       refine AL.rm ?_
       refine AL.ro (rd_move rfl rfl) ?_
       refine AL.ro (rd_bin rfl rfl rfl (fun _ => rfl)) ?_
       refine AL.r (rd_pick_t rfl rfl rfl) ?_
       refine AL.ra ?_
       refine AL.nil ?_
       change AW _ _ _ _ _
       refine AW.ret ?_
       change ResA _ _ _ _ _
       refine res1 rfl (ResV.tmp rfl) rfl ?_
       first | rfl | simp_all
      ·skip
       refine AL.n ?_
       refine AL.ro (rd_move rfl rfl) ?_
       refine AL.ro (rd_bin rfl rfl rfl (fun _ => rfl)) ?_
       refine AL.r (rd_pick_f rfl rfl rfl) ?_
       refine AL.nil ?_
       change AW _ _ _ _ _
       refine AW.cd rfl (fun h68 => ?_) (fun h68 => ?_)
       ·skip
        refine AW.seq ?_
        refine AW.region ?_
        refine AL.rm ?_
        refine AL.r (rd_peq_nil rfl pt_70 rfl rfl) ?_
        refine AL.rm ?_
        refine AL.ro (rd_move rfl rfl) ?_
        refine AL.ro (rd_bin rfl rfl rfl (fun _ => rfl)) ?_
        refine AL.r (rd_pick_t rfl rfl rfl) ?_
        refine AL.ra ?_
        refine AL.nil ?_
        change AW _ _ _ _ _
        refine AW.ret ?_
        change ResA _ _ _ _ _
        refine res1 rfl (ResV.tmp rfl) rfl ?_
        first | rfl | simp_all
       ·skip
        refine AW.skip ?_
        change AW _ _ _ _ _
        refine AW.seq ?_
        refine AW.seq ?_
        omega
theorem slotsNil_c (b : List UInt8) (f : Int) : AC Try.prog 12 [.sl (byA b), .sc (.int .i64 f)] (fun r => r = .s (.sc (.bool true))) := by
  by_cases hf : 0 ≤ f ∧ f < 3
  · obtain ⟨m, rfl⟩ : ∃ m : Nat, f = (m : Int) := ⟨f.toNat, by omega⟩
    exact slotsNil_in b m (by omega)
  · exact slotsNil_out b f hf
theorem walk_SlotsNil (w : World) (v0 : Value) (b0 : List UInt8) (hb0 : b0.length ≤ maxLen) (rp0 : RepS AnyB w v0 (.sl (byA b0))) (a1 : Int) (w1 : (Lit.int .i64 a1).wf = true) :
    Calls Try.prog 12 #[v0, .int .i64 a1] w fun e w' => e = .returned (.bool true) ∧ Below w.heap.size w w' :=
  (slotsNil_c b0 a1).law (vs := [v0, .int .i64 a1]) rfl (rep_cons rp0 (rep_cons (.sc _) rep_nil))
end Go.Proofs.Ytgjpeldgjpgbcaa
