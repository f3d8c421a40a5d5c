/- A part of a proof. -/
import Derived.Test.YtlapcfnmmpbeeaaPT34
set_option linter.unusedSimpArgs false
set_option linter.unusedVariables false
namespace Go.Proofs.Ytlapcfnmmpbeeaa
set_option maxRecDepth 100000
set_option maxRecDepth 100000
open Go.RowKit
theorem ptext_n (f : Int) (hf : i64R f) (s : Bytes) (hs : s.length ≤ 549755813000) : AC Try.prog 45 [.sl (byA []), .sc (.int .i64 f), AS s] (fun r => r = .s (.sl (byA (textP f s)))) := by
  have := ptext_c [] f (by simp) hf s hs
  rwa [List.nil_append] at this
theorem pref_n (f : Int) (hf : i64R f) (x : RefD) (h1 : i64R x.scope) (h2 : x.group.length ≤ 1000000) (h3 : x.name.length ≤ 1000000) : AC Try.prog 46 [.sl (byA []), .sc (.int .i64 f), x.av] (fun r => r = .s (.sl (byA (refP f x)))) := by
  have := pref_c [] f (by simp) hf x h1 h2 h3
  rwa [List.nil_append] at this
theorem pf5_row {f : Int} {x : FldD} {k g T : Nat} (hk : k < x.cases.length) : TK.mk g (.own T 1 (byA (pf5 f x k ++ textP f x.cases[k]))) = TK.mk g (.own T 1 (byA (pf5 f x (k + 1)))) := by
  rw [pf5_s hk]
set_option maxHeartbeats 1000000 in
theorem fput_c (b : List UInt8) (f : Int) (x : FldD) (hb : b.length ≤ 1000000) (hf : i64R f) (h : okF f = true) (hw : x.Wf) (hl : x.Light) : AC Try.prog 77 [.sl (byA b), .sc (.int .i64 f), x.av] (fun r => r = .s (.sl (byA (b ++ putF f x)))) := by
  have c1 := hl.group; have c2 := hl.name; have c3 := hl.dflt; have c4 := hl.cases
  have a1 := refP_len f x.at_; have a2 := putN_len f x.kind; have a3 := textP_len f x.dflt; have a4 := putN_len f (x.cases.length : Nat)
  have e4 := (pf5_len (f := f) hl 0).1
  have b3 : (pf3 f x).length ≤ 700 := by unfold pf4 at e4; rw [List.length_append] at e4; omega
  have b2 : (pf2 f x).length ≤ 700 := by unfold pf3 at b3; rw [List.length_append] at b3; omega
  have b1 : (pf1 f x).length ≤ 700 := by unfold pf2 at b2; rw [List.length_append] at b2; omega
  have hpl := putF_len (f := f) hl
  have a5 := putN_len f x.worth
  have hbb := byA_len b
  change AC _ _ [.sl (byA b), .sc (.int .i64 f), .ag [AI x.at_.scope, AS x.at_.group, AS x.at_.name, AI x.kind, AS x.dflt, .sl (csS x.cases), AI x.worth]] _; refine AC.of' 58 8 Try.func77 rfl ?_; change AW _ _ _ _ [TK.mk 0 .off, TK.mk 0 .off, TK.mk 0 .off, TK.mk 0 .off, TK.mk 0 .off, TK.mk 0 .off, TK.mk 0 .off, TK.mk 0 .off]; refine AW.g (AL.oq (AOpB.op (oB 0 ?_))); refine AL.n ?_; refine AL.ra ?_; refine AL.nil (AW.g (AL.rm ?_)); refine AL.r (qa fo_58_0) ?_; refine AL.r (qN ag_55) ?_; refine AL.cl (pref_n f hf x.at_ hw.scope (by omega) (by omega)) ?_; refine AL.n ?_; refine AL.ra ?_; refine AL.nil (AW.g ?_); (iterate 2 refine AL.rm ?_); refine AL.r (qa fo_58_1) ?_; refine AL.r (ql ag_3) ?_; refine AL.cl (pnum_c (pf1 f x) f (by omega) hf x.kind hw.kind) ?_; refine AL.n ?_; refine AL.ra ?_; refine AL.nil (AW.g ?_); (iterate 2 refine AL.rm ?_); refine AL.r (qa fo_58_2) ?_; refine AL.r (ql ag_9) ?_; refine AL.cl (ptext_c (pf2 f x) f (by omega) hf x.dflt (by omega)) ?_; refine AL.n ?_; refine AL.ra ?_; refine AL.nil (AW.g ?_); (iterate 2 refine AL.rm ?_); refine AL.r (qa fo_58_3) ?_
  refine AL.r (ql ag_56) ?_; refine AL.r (lN el_56) ?_; refine AL.oq (AOpB.op (op_call (pnum_o (pf3 f x) f (x.cases.length : Nat) (by omega) hf ⟨by omega, by omega⟩ h) rfl (by kernel_rfl) rfl (some 2) ?_)); rintro r rfl; refine ⟨_, rfl, ?_⟩; refine AL.n ?_; refine AL.ra ?_; refine AL.nil (AW.seq (AW.g (AL.r (qa fo_58_3) ?_))); refine AL.r (ql ag_56) ?_; refine AL.r (lN el_56) ?_; refine AL.rm ?_; refine AL.nil (AW.block (AW.loopM (ι := Nat × Nat) [9, 35, 36, 37, 38, 39, 40, 41, 42, 43] (fun ⟨k, gL⟩ => [(34, AI (k : Int)), (7, .ow 2 gL)]) [3] (fun ⟨k, gL⟩ => [(2, ⟨gL, .own 5 1 (byA (pf5 f x k))⟩)]) (fun ⟨k, gL⟩ => k ≤ x.cases.length) (fun ⟨k, gL⟩ => x.cases.length - k) (0, 1) (Nat.zero_le _) wk (by simp only [anys, upds, offs, List.set_cons_zero, List.set_cons_succ]; repeat (first | exact Sk.nil _ | refine Sk.same _ ?_ | refine Sk.scr _ (by decide) ?_ | refine Sk.eq _ (by rw [pf5_0]; rfl) ?_)) ?_))
  rintro ⟨k, gL⟩ gs hJ; refine AW.nm ?_; refine AW.g (AL.r qb ?_); refine AL.nil (AW.seq (AW.cd rfl (fun h35 => ?_) (fun h35 => ?_)))
  ·refine AW.skip (AW.seq (AW.block (AW.g (AL.r (rd_iaddr_sl rfl el_56 rfl rfl rfl (get_mapA (by omega)) rfl) ?_)))); refine AL.r (rd_load_ep rfl ag_9 rfl rfl) ?_; refine AL.ra ?_; refine AL.nil (AW.region ?_)
   have l3 := textP_len f (x.cases[k]'(by omega)); have l5 := hl.case _ (List.getElem_mem (show k < x.cases.length by omega)); have l4 := (pf5_len (f := f) hl k).2
   (iterate 3 refine AL.rm ?_); refine AL.cl (ptext_n f hf (x.cases[k]'(by omega)) (by omega)) ?_; refine AL.n ?_; refine AL.oq (op_append rfl ap_35 rfl rfl (src_s rfl) (by simp only [byA_len]; omega) (by simp only [byA_len]; omega) ?_); refine AL.n ?_; refine AL.ra ?_; refine AL.nil ?_; change AW _ _ _ _ _; refine AW.region ?_; refine AL.r qA ?_; refine AL.rm ?_; refine AL.nil ?_; refine ⟨⟨k + 1, gL + 1⟩, ?_, by first | omega | (simp only []; omega), ?_, ?_⟩
   ·show k + 1 ≤ x.cases.length; omega
   ·exact wk
   simp only [anys, upds, offs, List.set_cons_zero, List.set_cons_succ]; repeat (first | exact Sk.nil _ | refine Sk.same _ ?_ | refine Sk.scr _ (by decide) ?_ | refine Sk.eq _ (by first | rfl | exact pf5_row (by omega)) ?_)
  refine AW.exit ?_; change AW _ _ _ _ _; refine AW.g ?_; obtain rfl : k = x.cases.length := (by omega)
  have l4 := (pf5_len (f := f) hl x.cases.length).2
  refine AL.settle 7 rfl rfl (by first | rfl | exact cont_owM _ _ _ _) ?_; refine AL.no ?_; (iterate 2 refine AL.rm ?_); refine AL.r (qa fo_58_4) ?_; refine AL.r (ql ag_2) ?_; refine AL.cl (pnum_c (pf5 f x x.cases.length) f (by omega) hf x.worth hw.worth) ?_; refine AL.n ?_; refine AL.ra ?_; refine AL.nil (AW.g (AL.rm ?_)); refine AL.r (lN el_35) ?_; refine AL.rm ?_; refine AL.r (lN el_35) ?_; refine AL.r qA ?_; refine AL.oq (AOpB.op (op_make0 5 rfl ap_35 rfl rfl (n := b.length + ((pf5 f x x.cases.length).length + (putN f x.worth).length)) (by omega) (by omega) (by omega) rfl ?_)); refine AL.n ?_; refine AL.ra ?_; refine AL.nil (AW.g ?_); (iterate 2 refine AL.rm ?_); refine AL.oq (op_append rfl ap_35 rfl rfl (src_s rfl) (by first | omega | (simp; omega) | simp) (by first | omega | (simp; omega) | simp) ?_); refine AL.n ?_; refine AL.ra ?_; refine AL.nil (AW.g ?_); (iterate 2 refine AL.rm ?_); refine AL.oq (op_append rfl ap_35 rfl rfl (src_s rfl) (by simp only [byA_len, List.nil_append, List.length_append]; omega) (by simp only [byA_len, List.nil_append, List.length_append]; omega) ?_); refine AL.n ?_; refine AL.ra ?_; refine AL.nil (AW.ret (res1 rfl (ResV.tmp rfl) (by first | rfl | exact setA_own rfl) ?_)); rw [List.nil_append, byA_app]; rfl
section
variable (f : Int) (hf : i64R f) (h : okF f = false)
include hf h
end
theorem cases_row {g : Nat} {rs : List Bytes} {t : Bytes} : TK.mk g (owM true 9 1 (csS rs ++ [[AS t]])) = TK.mk g (owM true 9 1 (csS (rs ++ [t]))) := by
  unfold csS; rw [List.map_append]; rfl
section
variable (g : Nat) (r : RdrD)
set_option maxHeartbeats 1000000 in
theorem fget_c (h : r.Ok) : ACo Try.prog 81 [.bx 0 g 0] (RdrT g r) (fun y os' => y = (getF r).1.av ∧ os' = RdrT g (getF r).2) := by
  obtain ⟨hc1, hc2⟩ := count_bd (u3 r) (most := 6) (by omega)
  have hqn : ((un r : Nat) : Int) = (countP (u3 r) 6).1 := Int.toNat_of_nonneg hc1
  refine ACo.of' (st0 := [⟨g, .box 101 [.sl (byA r.b), .sc (.int .i64 r.f), .sc (.int .i64 r.at_), .sc (.bool r.bad)]⟩, TK.mk 0 .off, TK.mk 0 .off, TK.mk 0 .off, TK.mk 0 .off]) 38 4 Try.func81 rfl 1 ?_; refine AW.g (AL.oq (AOpB.op (oA 1 ze_58 ?_))); refine AL.no ?_; refine AL.nil (AW.g (AL.oq (AOpB.op (oA 2 ze_58 ?_)))); refine AL.no ?_; refine AL.nil (AW.g (AL.rm ?_)); refine AL.oq (calloR (rdref_c g r h) [0] ?_); rintro y os' ⟨rfl, rfl⟩; refine AL.noR ?_; refine AL.r (qa fo_58_0) ?_; refine AL.oq (oS sz_55 ?_); refine AL.no ?_; refine AL.nil (AW.g (AL.rm ?_)); refine AL.oq (calloR (rnum_c g (u1 r) (u1_ok h).ok) [0] ?_); rintro y os' ⟨rfl, rfl⟩; refine AL.noR ?_; refine AL.r (qa fo_58_1) ?_; refine AL.oq (oS sz_3 ?_); refine AL.no ?_; refine AL.nil (AW.g (AL.rm ?_)); refine AL.oq (calloR (rtext_c g (u2 r) (u2_ok h).ok 40) [0] ?_); rintro y os' ⟨rfl, rfl⟩; refine AL.noR ?_; refine AL.r (qa fo_58_2) ?_; refine AL.oq (oS sz_9 ?_); refine AL.no ?_; refine AL.nil (AW.seq (AW.g (AL.rm ?_))); refine AL.oq (calloR (rcount_c g (u3 r) (u3_ok h).ok 6) [0] ?_); rintro y os' ⟨rfl, rfl⟩; refine AL.noR ?_; refine AL.nilbx 2 5 4 9 1 rfl rfl rfl (by decide) ?_; refine AL.no ?_; refine AL.rm ?_; refine AL.nil (AW.block (AW.loopM (ι := Nat × Nat) [16, 17, 18, 19, 20, 21, 22, 23, 24] (fun ⟨j, gL⟩ => [(15, AI (j : Int))]) [3] (fun ⟨j, gL⟩ => [(0, ⟨g, .box 101 [.sl (byA (casesP j (u4 r)).2.b), .sc (.int .i64 (casesP j (u4 r)).2.f), .sc (.int .i64 (casesP j (u4 r)).2.at_), .sc (.bool (casesP j (u4 r)).2.bad)]⟩), (4, ⟨gL, owM true 9 1 (csS (casesP j (u4 r)).1)⟩), (2, ⟨1, .box 58 [AI (rrefP r).1.scope, AS (rrefP r).1.group, AS (rrefP r).1.name, AI (numP (u1 r)).1, AS (rtextP (u2 r) 40).1, .ow 4 gL, AI 0]⟩)]) (fun ⟨j, gL⟩ => j ≤ un r) (fun ⟨j, gL⟩ => un r - j) (0, 1) (Nat.zero_le _) wk (by simp only [anys, upds, offs, List.set_cons_zero, List.set_cons_succ]; repeat (first | exact Sk.nil _ | refine Sk.same _ ?_ | refine Sk.scr _ (by decide) ?_ | refine Sk.eq _ (by rfl) ?_)) ?_))
  rintro ⟨j, gL⟩ gs hJ; refine AW.nm ?_; refine AW.g (AL.r qb ?_); refine AL.nil (AW.seq (AW.cd rfl (fun h16 => ?_) (fun h16 => ?_)))
  ·refine AW.skip (AW.seq (AW.block (AW.drawA (by kernel_rfl) ?_)))
   have hto := casesP_ok (u4_ok h).ok j
   refine ADA.r 0 rfl (ARdP.a (rdP_faddr_bx rfl fo_58_3 rfl rfl ⟨_, _, rfl⟩)) rfl ?_; refine ADA.r 2 rfl (ARdP.a (rdP_move rfl rfl)) rfl ?_; refine ADA.b ?_; refine ADB.all (is := [1, 3]) (by kernel_rfl) (by simp) ?_; intro i hi; simp only [List.mem_cons, List.not_mem_nil, or_false] at hi
   rcases hi with rfl | rfl
   ·refine ⟨_, rfl, rfl, AOpB.op (ARd.opB (ql ag_56) ?_)⟩; refine ADB.n ?_; refine ADB.mv 3 rfl (calloR (rtext_c g (casesP j (u4 r)).2 hto.1.ok 12) [0] ?_); rintro y os' ⟨rfl, rfl⟩; refine ADB.noR ?_; refine ADB.mv 4 rfl (AOpB.op (bs_set rfl ap_56 ze_9 rfl rfl ?_)); refine ADB.n ?_; refine ADB.mv 5 rfl (op_appendM rfl ap_56 rfl rfl (src_s rfl) (by have := hto.2; simp only [csS_len, List.length_cons, List.length_nil]; omega) (by have := hto.2; simp only [csS_len, List.length_cons, List.length_nil]; omega) ?_); refine ADB.n ?_; refine ADB.r 6 rfl (rdP_faddr_bx rfl fo_58_3 rfl rfl ⟨_, _, rfl⟩) rfl ?_; refine ADB.mv 7 rfl (op_storo rfl rfl rfl rfl rfl sz_56 ?_); refine ADB.n ?_; refine ADB.done (by kernel_rfl) ?_; change AW _ _ _ _ _; refine AW.region ?_; refine AL.r qA ?_; refine AL.rm ?_; refine AL.nil ?_; refine ⟨⟨j + 1, gL + 1⟩, ?_, by first | omega | (simp only []; omega), ?_, ?_⟩
    ·show j + 1 ≤ un r; omega
    ·exact wk
    simp only [anys, upds, offs, List.set_cons_zero, List.set_cons_succ]; repeat (first | exact Sk.nil _ | refine Sk.same _ ?_ | refine Sk.scr _ (by decide) ?_ | refine Sk.eq _ (by first | rfl | exact cases_row) ?_)
   refine ⟨_, rfl, rfl, calloR (rtext_c g (casesP j (u4 r)).2 hto.1.ok 12) [0] ?_⟩; rintro y os' ⟨rfl, rfl⟩; refine ADB.noR ?_; refine ADB.all (is := [1, 4]) (by kernel_rfl) (by simp) ?_; intro i hi; simp only [List.mem_cons, List.not_mem_nil, or_false] at hi
   rcases hi with rfl | rfl
   ·refine ⟨_, rfl, rfl, AOpB.op (ARd.opB (ql ag_56) ?_)⟩; refine ADB.n ?_; refine ADB.mv 4 rfl (AOpB.op (bs_set rfl ap_56 ze_9 rfl rfl ?_)); refine ADB.n ?_; refine ADB.mv 5 rfl (op_appendM rfl ap_56 rfl rfl (src_s rfl) (by have := hto.2; simp only [csS_len, List.length_cons, List.length_nil]; omega) (by have := hto.2; simp only [csS_len, List.length_cons, List.length_nil]; omega) ?_); refine ADB.n ?_; refine ADB.r 6 rfl (rdP_faddr_bx rfl fo_58_3 rfl rfl ⟨_, _, rfl⟩) rfl ?_; refine ADB.mv 7 rfl (op_storo rfl rfl rfl rfl rfl sz_56 ?_); refine ADB.n ?_; refine ADB.done (by kernel_rfl) ?_; change AW _ _ _ _ _; refine AW.region ?_; refine AL.r qA ?_; refine AL.rm ?_; refine AL.nil ?_; refine ⟨⟨j + 1, gL + 1⟩, ?_, by first | omega | (simp only []; omega), ?_, ?_⟩
    ·show j + 1 ≤ un r; omega
    ·exact wk
    simp only [anys, upds, offs, List.set_cons_zero, List.set_cons_succ]; repeat (first | exact Sk.nil _ | refine Sk.same _ ?_ | refine Sk.scr _ (by decide) ?_ | refine Sk.eq _ (by first | rfl | exact cases_row) ?_)
   refine ⟨_, rfl, rfl, AOpB.op (bs_set rfl ap_56 ze_9 rfl rfl ?_)⟩; refine ADB.n ?_; refine ADB.mv 1 rfl (AOpB.op (ARd.opB (ql ag_56) ?_)); refine ADB.n ?_; refine ADB.mv 5 rfl (op_appendM rfl ap_56 rfl rfl (src_s rfl) (by have := hto.2; simp only [csS_len, List.length_cons, List.length_nil]; omega) (by have := hto.2; simp only [csS_len, List.length_cons, List.length_nil]; omega) ?_); refine ADB.n ?_; refine ADB.r 6 rfl (rdP_faddr_bx rfl fo_58_3 rfl rfl ⟨_, _, rfl⟩) rfl ?_; refine ADB.mv 7 rfl (op_storo rfl rfl rfl rfl rfl sz_56 ?_); refine ADB.n ?_; refine ADB.done (by kernel_rfl) ?_; change AW _ _ _ _ _; refine AW.region ?_; refine AL.r qA ?_; refine AL.rm ?_; refine AL.nil ?_; refine ⟨⟨j + 1, gL + 1⟩, ?_, by first | omega | (simp only []; omega), ?_, ?_⟩
   ·show j + 1 ≤ un r; omega
   ·exact wk
   simp only [anys, upds, offs, List.set_cons_zero, List.set_cons_succ]; repeat (first | exact Sk.nil _ | refine Sk.same _ ?_ | refine Sk.scr _ (by decide) ?_ | refine Sk.eq _ (by first | rfl | exact cases_row) ?_)
  refine AW.exit ?_; change AW _ _ _ _ _; refine AW.g ?_; obtain rfl : j = un r := (by omega); refine AL.rm ?_; refine AL.oq (calloR (rnum_c g (u5 r) (u5_ok h).ok) [0] ?_); rintro y os' ⟨rfl, rfl⟩; refine AL.noR ?_; refine AL.r (qa fo_58_4) ?_; refine AL.oq (oS sz_2 ?_); refine AL.no ?_; refine AL.nil (AW.seq (AW.g (AL.settlebx 2 5 rfl rfl rfl (by first | rfl | exact cont_owM _ _ _ _) ?_))); refine AL.no ?_; refine AL.rm ?_; refine AL.oq (calloR (rbad_c g (u6 r)) [0] ?_); rintro y os' ⟨rfl, rfl⟩; refine AL.noR ?_; refine AL.rm ?_; refine AL.fk (d := 30) rfl (fun h30 => ?_) (fun h30 => ?_)
  ·refine AL.n ?_; (iterate 3 refine AL.rf ?_); refine AL.r qt ?_; refine AL.nil (AW.cond_t rfl (AW.g (AL.rm ?_))); refine AL.oq (calloR (rspoil_c g (u6 r)) [0] ?_); rintro y os' ⟨rfl, rfl⟩; refine AL.noR ?_; refine AL.nil (AW.g (AL.r (qB pl_58 ze_58) ?_)); refine AL.oq (oS sz_58 ?_); refine AL.no ?_; refine AL.nil (AW.ret ?_)
   repeat with_reducible first | refine thenA_ret ?_ | refine inBlockA_ret ?_
   with_reducible first | refine retO_ret ?_ | refine retO_normal ?_
   refine reso1R rfl (ResV.cells rfl rfl ag_58 (Nat.le_of_ble_eq_true rfl) rfl) rfl ?_; rw [getF, if_neg (by simp_all)]; exact ⟨rfl, rfl⟩
  refine AL.n ?_; refine AL.ro (qN ag_58) ?_; refine AL.on rfl rfl rfl (AOpB.op (op_call (right_c (rawF r)) rfl (by kernel_rfl) rfl (none) ?_)); rintro r rfl; refine AL.no ?_; refine AL.ro qu ?_; refine AL.r qf ?_; refine AL.nil (AW.cd rfl (fun h34 => ?_) (fun h34 => ?_))
  ·refine AW.g (AL.rm ?_); refine AL.oq (calloR (rspoil_c g (u6 r)) [0] ?_); rintro y os' ⟨rfl, rfl⟩; refine AL.noR ?_; refine AL.nil (AW.g (AL.r (qB pl_58 ze_58) ?_)); refine AL.oq (oS sz_58 ?_); refine AL.no ?_; refine AL.nil (AW.ret ?_)
   repeat with_reducible first | refine thenA_ret ?_ | refine inBlockA_ret ?_
   with_reducible first | refine retO_ret ?_ | refine retO_normal ?_
   refine reso1R rfl (ResV.cells rfl rfl ag_58 (Nat.le_of_ble_eq_true rfl) rfl) rfl ?_; rw [getF, if_neg (by simp_all)]; exact ⟨rfl, rfl⟩
  refine AW.skip (AW.g (AL.r (qN ag_58) ?_)); refine AL.oq (oS sz_58 ?_); refine AL.no ?_; refine AL.nil (AW.ret ?_)
  repeat with_reducible first | refine thenA_ret ?_ | refine inBlockA_ret ?_
  with_reducible first | refine retO_ret ?_ | refine retO_normal ?_
  refine reso1R rfl (ResV.cells rfl rfl ag_58 (Nat.le_of_ble_eq_true rfl) rfl) rfl ?_; rw [getF, if_pos (by simp_all)]; exact ⟨rfl, rfl⟩
end
end Go.Proofs.Ytlapcfnmmpbeeaa
