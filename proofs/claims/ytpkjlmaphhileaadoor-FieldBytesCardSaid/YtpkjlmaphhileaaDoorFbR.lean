/- A field as bytes, and got from bytes: the reference, walked over abstract states. Conditions: fields of int64 numbers and short texts; fewer than 2^40 bytes. -/
import Derived.Test.YtpkjlmaphhileaaDoorFbW
import Derived.Test.YtpkjlmaphhileaaDoorThB
namespace Go.Proofs.YtpkjlmaphhileaaDoor
set_option linter.unusedSimpArgs false
set_option linter.unusedVariables false
set_option maxRecDepth 100000
set_option maxRecDepth 100000
open Go.RowKit

section
variable (f : Int) (hf : i64R f) (h : okF f = true)
include hf h
theorem rtext13_c (s : Bytes) (hs : s.length ≤ 1000000) : AC Tryd.prog 53 [.sc (.int .i64 f), AS s] (fun r => r = .s (.sl (byA (textP f s)))) := by
  refine AC.of' 7 0 Tryd.func53 rfl ?_
  change AW _ _ _ _ []
  refine AW.seq ?_
  refine AW.region ?_
  refine AL.ra ?_
  refine AL.nil ?_
  change AW _ _ _ _ _
  refine AW.seq ?_
  refine AW.region ?_
  refine AL.rm ?_
  refine AL.rm ?_
  refine AL.r (rd_build rfl pl_76 ze_76 rfl rfl) ?_
  refine AL.op rfl (AOpB.op (op_call (r8text_c f hf h s hs) rfl (by kernel_rfl) rfl (none) ?_))
  rintro r rfl
  refine AL.n ?_
  refine AL.ra ?_
  refine AL.nil ?_
  change AW _ _ _ _ _
  refine AW.ret ?_
  change ResA _ _ _ _ _
  refine res1 rfl (ResV.tmp rfl) rfl ?_
  rfl
set_option maxHeartbeats 1000000 in
theorem rput13_c (x : FldD) (hw : x.Wf) (hl : x.Light) : AC Tryd.prog 27 [.sc (.int .i64 f), x.av] (fun r => r = .s (.sl (byA (putF f x)))) := by
  have c1 := hl.group; have c2 := hl.name; have c3 := hl.dflt; have c4 := hl.cases
  have a1 := refP_len f x.at_; have a2 := putN_len f x.kind; have a3 := textP_len f x.dflt; have a4 := putN_len f (x.cases.length : Nat); have a5 := putN_len f x.worth
  have e4 := (pf5_len (f := f) hl 0).1
  change AC _ _ [.sc (.int .i64 f), .ag [AI x.at_.scope, AS x.at_.group, AS x.at_.name, AI x.kind, AS x.dflt, .sl (csS x.cases), AI x.worth]] _
  refine AC.of' 51 10 Tryd.func27 rfl ?_
  change AW _ _ _ _ [TK.mk 0 .off, TK.mk 0 .off, TK.mk 0 .off, TK.mk 0 .off, TK.mk 0 .off, TK.mk 0 .off, TK.mk 0 .off, TK.mk 0 .off, TK.mk 0 .off, TK.mk 0 .off]
  refine AW.seq ?_
  refine AW.region ?_
  refine AL.op rfl (AOpB.op (op_box 0 rfl rfl rfl rfl rfl ?_))
  refine AL.n ?_
  refine AL.ra ?_
  refine AL.nil ?_
  change AW _ _ _ _ _
  refine AW.seq ?_
  refine AW.region ?_
  refine AL.rm ?_
  refine AL.r (rd_faddr_bx rfl fo_37_0 rfl rfl ⟨_, _, rfl⟩) ?_
  refine AL.r (rd_loadN_bx rfl ag_23 rfl rfl (Nat.le_of_ble_eq_true rfl) rfl) ?_
  refine AL.r (rd_build rfl pl_76 ze_76 rfl rfl) ?_
  refine AL.op rfl (AOpB.op (op_call (r8ref_c f hf h x.at_ hw.scope (by omega) (by omega)) rfl (by kernel_rfl) rfl (some 1) ?_))
  rintro r rfl
  refine ⟨_, rfl, ?_⟩
  refine AL.n ?_
  refine AL.ra ?_
  refine AL.nil ?_
  change AW _ _ _ _ _
  refine AW.seq ?_
  refine AW.region ?_
  refine AL.rm ?_
  refine AL.rm ?_
  refine AL.r (rd_faddr_bx rfl fo_37_1 rfl rfl ⟨_, _, rfl⟩) ?_
  refine AL.r (rd_load_bx rfl ag_3 rfl rfl rfl) ?_
  refine AL.op rfl (AOpB.op (op_call (crput_n f hf h x.kind hw.kind) rfl (by kernel_rfl) rfl (some 2) ?_))
  rintro r rfl
  refine ⟨_, rfl, ?_⟩
  refine AL.n ?_
  refine AL.op rfl (op_append rfl ap_43 rfl rfl (src_ow rfl rfl) (by simp only [byA_len, List.length_append]; omega) (by simp only [byA_len, List.length_append]; omega) ?_)
  refine AL.n ?_
  refine AL.ra ?_
  refine AL.nil ?_
  change AW _ _ _ _ _
  refine AW.seq ?_
  refine AW.region ?_
  refine AL.rm ?_
  refine AL.rm ?_
  refine AL.r (rd_faddr_bx rfl fo_37_2 rfl rfl ⟨_, _, rfl⟩) ?_
  refine AL.r (rd_load_bx rfl ag_9 rfl rfl rfl) ?_
  refine AL.op rfl (AOpB.op (op_call (rtext13_c f hf h x.dflt (by omega)) rfl (by kernel_rfl) rfl (none) ?_))
  rintro r rfl
  refine AL.n ?_
  refine AL.op rfl (op_append rfl ap_43 rfl rfl (src_s rfl) (by simp only [byA_len, List.length_append]; omega) (by simp only [byA_len, List.length_append]; omega) ?_)
  refine AL.n ?_
  refine AL.ra ?_
  refine AL.nil ?_
  change AW _ _ _ _ _
  refine AW.seq ?_
  refine AW.region ?_
  refine AL.rm ?_
  refine AL.rm ?_
  refine AL.r (rd_faddr_bx rfl fo_37_3 rfl rfl ⟨_, _, rfl⟩) ?_
  refine AL.r (rd_load_bx rfl ag_35 rfl rfl rfl) ?_
  refine AL.r (rd_len_sl rfl el_35 rfl) ?_
  refine AL.op rfl (AOpB.op (op_call (crput_n f hf h (x.cases.length : Nat) ⟨by omega, by omega⟩) rfl (by kernel_rfl) rfl (some 5) ?_))
  rintro r rfl
  refine ⟨_, rfl, ?_⟩
  refine AL.n ?_
  refine AL.op rfl (op_append rfl ap_43 rfl rfl (src_ow rfl rfl) (by simp only [byA_len, List.length_append]; omega) (by simp only [byA_len, List.length_append]; omega) ?_)
  refine AL.n ?_
  refine AL.ra ?_
  refine AL.nil ?_
  change AW _ _ _ _ _
  refine AW.seq ?_
  refine AW.seq ?_
  refine AW.region ?_
  refine AL.ra ?_
  refine AL.nil ?_
  change AW _ _ _ _ _
  refine AW.block ?_
  refine AW.loopM (ι := Nat × Nat) [31, 32, 33, 34, 35, 36, 37, 38, 39, 40, 41, 42, 43, 44, 45, 46] (fun ⟨k, gL⟩ => [(6, AI (k : Int)), (5, .ow 1 gL)]) [7] (fun ⟨k, gL⟩ => [(1, ⟨gL, .own 5 1 (byA (pf5 f x k))⟩)]) (fun ⟨k, gL⟩ => k ≤ x.cases.length) (fun ⟨k, gL⟩ => x.cases.length - k) (0, 4) (Nat.zero_le _) (by simp only [anys, upds, offs, List.set_cons_zero, List.set_cons_succ]; repeat (first | exact Wk.nil | refine Wk.same ?_ | refine Wk.any ?_)) (by simp only [anys, upds, offs, List.set_cons_zero, List.set_cons_succ]; repeat (first | exact Sk.nil _ | refine Sk.same _ ?_ | refine Sk.scr _ (by decide) ?_ | refine Sk.eq _ (by rw [pf5_0]; rfl) ?_)) ?_
  rintro ⟨k, gL⟩ gs hJ
  refine AW.norm (by simp only [anys, upds, offs, List.set_cons_zero, List.set_cons_succ]; rfl) (by (try simp only [anys, upds, offs, List.set_cons_zero, List.set_cons_succ]); (try rfl)) ?_
  refine AW.seq ?_
  refine AW.seq ?_
  refine AW.region ?_
  refine AL.rm ?_
  refine AL.r (rd_faddr_bx rfl fo_37_3 rfl rfl ⟨_, _, rfl⟩) ?_
  refine AL.r (rd_load_bx rfl ag_35 rfl rfl rfl) ?_
  refine AL.r (rd_len_sl rfl el_35 rfl) ?_
  refine AL.r (rd_bin rfl rfl rfl (fun _ => rfl)) ?_
  refine AL.nil ?_
  change AW _ _ _ _ _
  refine AW.cd rfl (fun h35 => ?_) (fun h35 => ?_)
  ·skip
   refine AW.skip ?_
   change AW _ _ _ _ _
   refine AW.seq ?_
   refine AW.block ?_
   refine AW.region ?_
   have l3 := textP_len f (x.cases[k]'(by omega)); have l5 := hl.case _ (List.getElem_mem (show k < x.cases.length by omega)); have l4 := (pf5_len (f := f) hl k).2
   refine AL.rm ?_
   refine AL.rm ?_
   refine AL.r (rd_faddr_bx rfl fo_37_3 rfl rfl ⟨_, _, rfl⟩) ?_
   refine AL.r (rd_load_bx rfl ag_35 rfl rfl rfl) ?_
   refine AL.rm ?_
   refine AL.r (rd_iaddr_sl rfl el_35 rfl rfl rfl (get_mapA (by omega)) rfl) ?_
   refine AL.r (rd_load_ep rfl ag_9 rfl rfl) ?_
   refine AL.op rfl (AOpB.op (op_call (rtext13_c f hf h (x.cases[k]'(by omega)) (by omega)) rfl (by kernel_rfl) rfl (none) ?_))
   rintro r rfl
   refine AL.n ?_
   refine AL.op rfl (op_append rfl ap_43 rfl rfl (src_s rfl) (by simp only [byA_len]; omega) (by simp only [byA_len]; omega) ?_)
   refine AL.n ?_
   refine AL.ra ?_
   refine AL.nil ?_
   change AW _ _ _ _ _
   refine AW.region ?_
   refine AL.rm ?_
   refine AL.r (rd_arith_add rfl rfl rfl (by first | exact IntWalk.i64_in _ (by omega) | rfl)) ?_
   refine AL.ra ?_
   refine AL.nil ?_
   refine ⟨⟨k + 1, gL + 1⟩, ?_, by first | omega | (simp only []; omega), ?_, ?_⟩
   ·show k + 1 ≤ x.cases.length; omega
   ·simp only [anys, upds, offs, List.set_cons_zero, List.set_cons_succ]; repeat (first | exact Wk.nil | refine Wk.same ?_ | refine Wk.any ?_)
   ·simp only [anys, upds, offs, List.set_cons_zero, List.set_cons_succ]; repeat (first | exact Sk.nil _ | refine Sk.same _ ?_ | refine Sk.scr _ (by decide) ?_ | refine Sk.eq _ (by first | rfl | exact pf5_row (by omega)) ?_)
  ·skip
   refine AW.exit ?_
   change AW _ _ _ _ _
   refine AW.seq ?_
   refine AW.region ?_
   obtain rfl : k = x.cases.length := (by omega)
   have l4 := (pf5_len (f := f) hl x.cases.length).2
   refine AL.rm ?_
   refine AL.rm ?_
   refine AL.r (rd_faddr_bx rfl fo_37_4 rfl rfl ⟨_, _, rfl⟩) ?_
   refine AL.r (rd_load_bx rfl ag_2 rfl rfl rfl) ?_
   refine AL.op rfl (AOpB.op (op_call (crput_n f hf h x.worth hw.worth) rfl (by kernel_rfl) rfl (some 8) ?_))
   rintro r rfl
   refine ⟨_, rfl, ?_⟩
   refine AL.n ?_
   refine AL.op rfl (op_append rfl ap_43 rfl rfl (src_ow rfl rfl) (by simp only [byA_len]; omega) (by simp only [byA_len]; omega) ?_)
   refine AL.n ?_
   refine AL.ra ?_
   refine AL.nil ?_
   change AW _ _ _ _ _
   refine AW.ret ?_
   change ResA _ _ _ _ _
   refine res1 rfl (ResV.tmp rfl) (by first | rfl | exact setA_own rfl) ?_
   rfl
end
theorem cst_row (b : List UInt8) (f at0 : Int) {g j : Nat} : TK.mk g (owM true 9 1 (csS (cst b f at0 j).1 ++ [[AS (rd8 b (cst b f at0 j).2.1 f (askT 1 12)).1.s]])) = TK.mk g (owM true 9 1 (csS (cst b f at0 (j + 1)).1)) := by
  rw [cst]; unfold csS; rw [List.map_append]; rfl
section
variable (b : List UInt8) (f at0 : Int) (hb : b.length ≤ 1099511627776) (h0 : 0 ≤ at0)
include hb h0
theorem y1_c : AC Tryd.prog 54 [.sl (byA b), .sc (.int .i64 at0), .sc (.int .i64 f), (askT 5 0).av] (fun r => r = .s (.tu [.ag [AI ((y1 b f at0).1).kind, AI ((y1 b f at0).1).n, AS ((y1 b f at0).1).s, AB ((y1 b f at0).1).f, AI ((y1 b f at0).1).t.rep, AI ((y1 b f at0).1).t.n, AI ((y1 b f at0).1).v.a, AI ((y1 b f at0).1).v.b, AI ((y1 b f at0).1).v.c, AI ((y1 b f at0).1).v.d, AI ((y1 b f at0).1).v.e, AI ((y1 b f at0).1).v.f, AI ((y1 b f at0).1).r.scope, AS ((y1 b f at0).1).r.group, AS ((y1 b f at0).1).r.name, AI ((y1 b f at0).1).most], AI (y1 b f at0).2.1, AB (y1 b f at0).2.2])) := rget8_c b f hb at0 h0 (askT 5 0) (by decide)
theorem y2_c : AC Tryd.prog 54 [.sl (byA b), .sc (.int .i64 (y1 b f at0).2.1), .sc (.int .i64 f), (askT 0 0).av] (fun r => r = .s (.tu [.ag [AI ((y2 b f at0).1).kind, AI ((y2 b f at0).1).n, AS ((y2 b f at0).1).s, AB ((y2 b f at0).1).f, AI ((y2 b f at0).1).t.rep, AI ((y2 b f at0).1).t.n, AI ((y2 b f at0).1).v.a, AI ((y2 b f at0).1).v.b, AI ((y2 b f at0).1).v.c, AI ((y2 b f at0).1).v.d, AI ((y2 b f at0).1).v.e, AI ((y2 b f at0).1).v.f, AI ((y2 b f at0).1).r.scope, AS ((y2 b f at0).1).r.group, AS ((y2 b f at0).1).r.name, AI ((y2 b f at0).1).most], AI (y2 b f at0).2.1, AB (y2 b f at0).2.2])) := rget8_c b f hb (y1 b f at0).2.1 (rd8_nn h0) (askT 0 0) (by decide)
theorem y3_c : AC Tryd.prog 54 [.sl (byA b), .sc (.int .i64 (y2 b f at0).2.1), .sc (.int .i64 f), (askT 1 40).av] (fun r => r = .s (.tu [.ag [AI ((y3 b f at0).1).kind, AI ((y3 b f at0).1).n, AS ((y3 b f at0).1).s, AB ((y3 b f at0).1).f, AI ((y3 b f at0).1).t.rep, AI ((y3 b f at0).1).t.n, AI ((y3 b f at0).1).v.a, AI ((y3 b f at0).1).v.b, AI ((y3 b f at0).1).v.c, AI ((y3 b f at0).1).v.d, AI ((y3 b f at0).1).v.e, AI ((y3 b f at0).1).v.f, AI ((y3 b f at0).1).r.scope, AS ((y3 b f at0).1).r.group, AS ((y3 b f at0).1).r.name, AI ((y3 b f at0).1).most], AI (y3 b f at0).2.1, AB (y3 b f at0).2.2])) := rget8_c b f hb (y2 b f at0).2.1 (rd8_nn (rd8_nn h0)) (askT 1 40) (by decide)
theorem y4_c : AC Tryd.prog 54 [.sl (byA b), .sc (.int .i64 (y3 b f at0).2.1), .sc (.int .i64 f), (askT 6 6).av] (fun r => r = .s (.tu [.ag [AI ((y4 b f at0).1).kind, AI ((y4 b f at0).1).n, AS ((y4 b f at0).1).s, AB ((y4 b f at0).1).f, AI ((y4 b f at0).1).t.rep, AI ((y4 b f at0).1).t.n, AI ((y4 b f at0).1).v.a, AI ((y4 b f at0).1).v.b, AI ((y4 b f at0).1).v.c, AI ((y4 b f at0).1).v.d, AI ((y4 b f at0).1).v.e, AI ((y4 b f at0).1).v.f, AI ((y4 b f at0).1).r.scope, AS ((y4 b f at0).1).r.group, AS ((y4 b f at0).1).r.name, AI ((y4 b f at0).1).most], AI (y4 b f at0).2.1, AB (y4 b f at0).2.2])) := rget8_c b f hb (y3 b f at0).2.1 (rd8_nn (rd8_nn (rd8_nn h0))) (askT 6 6) (by decide)
theorem y6_c : AC Tryd.prog 54 [.sl (byA b), .sc (.int .i64 (cst b f at0 (yn b f at0)).2.1), .sc (.int .i64 f), (askT 0 0).av] (fun r => r = .s (.tu [.ag [AI ((y6 b f at0).1).kind, AI ((y6 b f at0).1).n, AS ((y6 b f at0).1).s, AB ((y6 b f at0).1).f, AI ((y6 b f at0).1).t.rep, AI ((y6 b f at0).1).t.n, AI ((y6 b f at0).1).v.a, AI ((y6 b f at0).1).v.b, AI ((y6 b f at0).1).v.c, AI ((y6 b f at0).1).v.d, AI ((y6 b f at0).1).v.e, AI ((y6 b f at0).1).v.f, AI ((y6 b f at0).1).r.scope, AS ((y6 b f at0).1).r.group, AS ((y6 b f at0).1).r.name, AI ((y6 b f at0).1).most], AI (y6 b f at0).2.1, AB (y6 b f at0).2.2])) := rget8_c b f hb (cst b f at0 (yn b f at0)).2.1 (cst_nn h0 _) (askT 0 0) (by decide)
theorem yc_c (j : Nat) : AC Tryd.prog 54 [.sl (byA b), .sc (.int .i64 (cst b f at0 j).2.1), .sc (.int .i64 f), (askT 1 12).av] (fun r => r = .s (.tu [.ag [AI ((rd8 b (cst b f at0 j).2.1 f (askT 1 12)).1).kind, AI ((rd8 b (cst b f at0 j).2.1 f (askT 1 12)).1).n, AS ((rd8 b (cst b f at0 j).2.1 f (askT 1 12)).1).s, AB ((rd8 b (cst b f at0 j).2.1 f (askT 1 12)).1).f, AI ((rd8 b (cst b f at0 j).2.1 f (askT 1 12)).1).t.rep, AI ((rd8 b (cst b f at0 j).2.1 f (askT 1 12)).1).t.n, AI ((rd8 b (cst b f at0 j).2.1 f (askT 1 12)).1).v.a, AI ((rd8 b (cst b f at0 j).2.1 f (askT 1 12)).1).v.b, AI ((rd8 b (cst b f at0 j).2.1 f (askT 1 12)).1).v.c, AI ((rd8 b (cst b f at0 j).2.1 f (askT 1 12)).1).v.d, AI ((rd8 b (cst b f at0 j).2.1 f (askT 1 12)).1).v.e, AI ((rd8 b (cst b f at0 j).2.1 f (askT 1 12)).1).v.f, AI ((rd8 b (cst b f at0 j).2.1 f (askT 1 12)).1).r.scope, AS ((rd8 b (cst b f at0 j).2.1 f (askT 1 12)).1).r.group, AS ((rd8 b (cst b f at0 j).2.1 f (askT 1 12)).1).r.name, AI ((rd8 b (cst b f at0 j).2.1 f (askT 1 12)).1).most], AI (rd8 b (cst b f at0 j).2.1 f (askT 1 12)).2.1, AB (rd8 b (cst b f at0 j).2.1 f (askT 1 12)).2.2])) := rget8_c b f hb (cst b f at0 j).2.1 (cst_nn h0 j) (askT 1 12) (by decide)
set_option maxHeartbeats 4000000 in
theorem rget13_c : AC Tryd.prog 30 [.sl (byA b), .sc (.int .i64 at0), .sc (.int .i64 f)] (fun r => r = .s (.tu [(get13 b f at0).1.av, AI (get13 b f at0).2.1, AB (get13 b f at0).2.2])) := by
  refine AC.of' 133 10 Tryd.func30 rfl ?_
  change AW _ _ _ _ [TK.mk 0 .off, TK.mk 0 .off, TK.mk 0 .off, TK.mk 0 .off, TK.mk 0 .off, TK.mk 0 .off, TK.mk 0 .off, TK.mk 0 .off, TK.mk 0 .off, TK.mk 0 .off]
  refine AW.seq ?_
  refine AW.region ?_
  refine AL.op rfl (AOpB.op (op_alloc 0 rfl ze_37 rfl ?_))
  refine AL.n ?_
  refine AL.ra ?_
  refine AL.ra ?_
  refine AL.nil ?_
  change AW _ _ _ _ _
  refine AW.seq ?_
  refine AW.region ?_
  refine AL.r (rd_build rfl pl_37 ze_37 rfl rfl) ?_
  refine AL.op rfl (AOpB.op (op_alloc 1 rfl ze_37 rfl ?_))
  refine AL.n ?_
  refine AL.op rfl (op_store_ rfl rfl rfl rfl rfl sz_37 ?_)
  refine AL.n ?_
  refine AL.nil ?_
  change AW _ _ _ _ _
  refine AW.seq ?_
  refine AW.region ?_
  refine AL.rm ?_
  refine AL.rm ?_
  refine AL.rm ?_
  refine AL.r (rd_build rfl pl_76 ze_76 rfl rfl) ?_
  refine AL.op rfl (AOpB.op (op_call (y1_c b f at0 hb h0) rfl (by kernel_rfl) rfl (none) ?_))
  rintro r rfl
  refine AL.n ?_
  refine AL.rm ?_
  refine AL.r (rd_extract rfl rfl rfl) ?_
  refine AL.r (rd_extract rfl rfl rfl) ?_
  refine AL.r (rd_extract rfl rfl rfl) ?_
  refine AL.op rfl (AOpB.op (op_alloc 2 rfl ze_76 rfl ?_))
  refine AL.n ?_
  refine AL.op rfl (op_store_ rfl rfl rfl rfl rfl sz_76 ?_)
  refine AL.n ?_
  refine AL.ra ?_
  refine AL.ra ?_
  refine AL.nil ?_
  change AW _ _ _ _ _
  refine AW.seq ?_
  refine AW.seq ?_
  refine AW.region ?_
  refine AL.rm ?_
  refine AL.r (rd_un rfl rfl (fun _ => rfl)) ?_
  refine AL.nil ?_
  change AW _ _ _ _ _
  refine AW.cd rfl (fun h33 => ?_) (fun h33 => ?_)
  ·skip
   refine AW.seq ?_
   refine AW.region ?_
   refine AL.r (rd_loadN_bx rfl ag_37 rfl rfl (Nat.le_of_ble_eq_true rfl) rfl) ?_
   refine AL.op rfl (op_store_ rfl rfl rfl rfl rfl sz_37 ?_)
   refine AL.n ?_
   refine AL.ra ?_
   refine AL.ra ?_
   refine AL.nil ?_
   change AW _ _ _ _ _
   refine AW.ret ?_
   change ResA _ _ _ _ _
   refine res3 rfl (ResV.cells rfl rfl ag_37 (Nat.le_of_ble_eq_true rfl) rfl) rfl (ResV.tmp rfl) rfl (ResV.tmp rfl) rfl ?_
   rw [get13_no (by unfold ok13; simp_all)]; rfl
  ·skip
   refine AW.skip ?_
   change AW _ _ _ _ _
   refine AW.seq ?_
   refine AW.region ?_
   refine AL.rm ?_
   refine AL.rm ?_
   refine AL.rm ?_
   refine AL.r (rd_build rfl pl_76 ze_76 rfl rfl) ?_
   refine AL.op rfl (AOpB.op (op_call (y2_c b f at0 hb h0) rfl (by kernel_rfl) rfl (none) ?_))
   rintro r rfl
   refine AL.n ?_
   refine AL.rm ?_
   refine AL.r (rd_extract rfl rfl rfl) ?_
   refine AL.r (rd_extract rfl rfl rfl) ?_
   refine AL.r (rd_extract rfl rfl rfl) ?_
   refine AL.op rfl (AOpB.op (op_alloc 3 rfl ze_76 rfl ?_))
   refine AL.n ?_
   refine AL.op rfl (op_store_ rfl rfl rfl rfl rfl sz_76 ?_)
   refine AL.n ?_
   refine AL.ra ?_
   refine AL.ra ?_
   refine AL.nil ?_
   change AW _ _ _ _ _
   refine AW.seq ?_
   refine AW.seq ?_
   refine AW.region ?_
   refine AL.rm ?_
   refine AL.r (rd_un rfl rfl (fun _ => rfl)) ?_
   refine AL.nil ?_
   change AW _ _ _ _ _
   refine AW.cd rfl (fun h45 => ?_) (fun h45 => ?_)
   ·skip
    refine AW.seq ?_
    refine AW.region ?_
    refine AL.r (rd_loadN_bx rfl ag_37 rfl rfl (Nat.le_of_ble_eq_true rfl) rfl) ?_
    refine AL.op rfl (op_store_ rfl rfl rfl rfl rfl sz_37 ?_)
    refine AL.n ?_
    refine AL.ra ?_
    refine AL.ra ?_
    refine AL.nil ?_
    change AW _ _ _ _ _
    refine AW.ret ?_
    change ResA _ _ _ _ _
    refine res3 rfl (ResV.cells rfl rfl ag_37 (Nat.le_of_ble_eq_true rfl) rfl) rfl (ResV.tmp rfl) rfl (ResV.tmp rfl) rfl ?_
    rw [get13_no (by unfold ok13; simp_all)]; rfl
   ·skip
    refine AW.skip ?_
    change AW _ _ _ _ _
    refine AW.seq ?_
    refine AW.region ?_
    refine AL.rm ?_
    refine AL.rm ?_
    refine AL.rm ?_
    refine AL.r (rd_build rfl pl_76 ze_76 rfl rfl) ?_
    refine AL.op rfl (AOpB.op (op_call (y3_c b f at0 hb h0) rfl (by kernel_rfl) rfl (none) ?_))
    rintro r rfl
    refine AL.n ?_
    refine AL.rm ?_
    refine AL.r (rd_extract rfl rfl rfl) ?_
    refine AL.r (rd_extract rfl rfl rfl) ?_
    refine AL.r (rd_extract rfl rfl rfl) ?_
    refine AL.op rfl (AOpB.op (op_alloc 4 rfl ze_76 rfl ?_))
    refine AL.n ?_
    refine AL.op rfl (op_store_ rfl rfl rfl rfl rfl sz_76 ?_)
    refine AL.n ?_
    refine AL.ra ?_
    refine AL.ra ?_
    refine AL.nil ?_
    change AW _ _ _ _ _
    refine AW.seq ?_
    refine AW.seq ?_
    refine AW.region ?_
    refine AL.rm ?_
    refine AL.r (rd_un rfl rfl (fun _ => rfl)) ?_
    refine AL.nil ?_
    change AW _ _ _ _ _
    refine AW.cd rfl (fun h57 => ?_) (fun h57 => ?_)
    ·skip
     refine AW.seq ?_
     refine AW.region ?_
     refine AL.r (rd_loadN_bx rfl ag_37 rfl rfl (Nat.le_of_ble_eq_true rfl) rfl) ?_
     refine AL.op rfl (op_store_ rfl rfl rfl rfl rfl sz_37 ?_)
     refine AL.n ?_
     refine AL.ra ?_
     refine AL.ra ?_
     refine AL.nil ?_
     change AW _ _ _ _ _
     refine AW.ret ?_
     change ResA _ _ _ _ _
     refine res3 rfl (ResV.cells rfl rfl ag_37 (Nat.le_of_ble_eq_true rfl) rfl) rfl (ResV.tmp rfl) rfl (ResV.tmp rfl) rfl ?_
     rw [get13_no (by unfold ok13; simp_all)]; rfl
    ·skip
     refine AW.skip ?_
     change AW _ _ _ _ _
     refine AW.seq ?_
     refine AW.region ?_
     refine AL.rm ?_
     refine AL.rm ?_
     refine AL.rm ?_
     refine AL.r (rd_build rfl pl_76 ze_76 rfl rfl) ?_
     refine AL.op rfl (AOpB.op (op_call (y4_c b f at0 hb h0) rfl (by kernel_rfl) rfl (none) ?_))
     rintro r rfl
     refine AL.n ?_
     refine AL.rm ?_
     refine AL.r (rd_extract rfl rfl rfl) ?_
     refine AL.r (rd_extract rfl rfl rfl) ?_
     refine AL.r (rd_extract rfl rfl rfl) ?_
     refine AL.op rfl (AOpB.op (op_alloc 5 rfl ze_76 rfl ?_))
     refine AL.n ?_
     refine AL.op rfl (op_store_ rfl rfl rfl rfl rfl sz_76 ?_)
     refine AL.n ?_
     refine AL.ra ?_
     refine AL.ra ?_
     refine AL.nil ?_
     change AW _ _ _ _ _
     refine AW.seq ?_
     refine AW.seq ?_
     refine AW.region ?_
     refine AL.rm ?_
     refine AL.r (rd_un rfl rfl (fun _ => rfl)) ?_
     refine AL.nil ?_
     change AW _ _ _ _ _
     refine AW.cd rfl (fun h69 => ?_) (fun h69 => ?_)
     ·skip
      refine AW.seq ?_
      refine AW.region ?_
      refine AL.r (rd_loadN_bx rfl ag_37 rfl rfl (Nat.le_of_ble_eq_true rfl) rfl) ?_
      refine AL.op rfl (op_store_ rfl rfl rfl rfl rfl sz_37 ?_)
      refine AL.n ?_
      refine AL.ra ?_
      refine AL.ra ?_
      refine AL.nil ?_
      change AW _ _ _ _ _
      refine AW.ret ?_
      change ResA _ _ _ _ _
      refine res3 rfl (ResV.cells rfl rfl ag_37 (Nat.le_of_ble_eq_true rfl) rfl) rfl (ResV.tmp rfl) rfl (ResV.tmp rfl) rfl ?_
      rw [get13_no (by unfold ok13; simp_all)]; rfl
     ·skip
      refine AW.skip ?_
      change AW _ _ _ _ _
      refine AW.seq ?_
      refine AW.region ?_
      have e4 : (y4 b f at0).2.2 = true := (by simp_all)
      have hyn : ((yn b f at0 : Nat) : Int) = (y4 b f at0).1.n := Int.toNat_of_nonneg (rd8_count e4).1
      have hy6 : (y4 b f at0).1.n ≤ 6 := (rd8_count e4).2
      refine AL.r (rd_faddr_bx rfl fo_76_6 rfl rfl ⟨_, _, rfl⟩) ?_
      refine AL.r (rd_loadN_bx rfl ag_23 rfl rfl (Nat.le_of_ble_eq_true rfl) rfl) ?_
      refine AL.r (rd_faddr_bx rfl fo_76_2 rfl rfl ⟨_, _, rfl⟩) ?_
      refine AL.r (rd_load_bx rfl ag_9 rfl rfl rfl) ?_
      refine AL.r (rd_build rfl pl_37 ze_37 rfl rfl) ?_
      refine AL.op rfl (op_store_ rfl rfl rfl rfl rfl sz_37 ?_)
      refine AL.n ?_
      refine AL.nil ?_
      change AW _ _ _ _ _
      refine AW.seq ?_
      refine AW.seq ?_
      refine AW.region ?_
      refine AL.nilbx 1 5 8 9 1 rfl rfl rfl (by decide) ?_
      refine AL.no ?_
      refine AL.ra ?_
      refine AL.nil ?_
      change AW _ _ _ _ _
      refine AW.block ?_
      refine AW.loopM (ι := Nat × Nat) [7, 8, 17, 18, 19, 76, 77, 78, 79, 80, 81, 82, 83, 84, 85, 86, 87, 88, 89, 90, 91, 92, 93, 94, 95, 96, 97, 98, 99, 100, 101] (fun ⟨j, gL⟩ => [(16, AI (j : Int)), (11, AI (cst b f at0 j).2.1)]) [6, 7] (fun ⟨j, gL⟩ => [(8, ⟨gL, owM true 9 1 (csS (cst b f at0 j).1)⟩), (1, ⟨1, .box 37 [AI (y1 b f at0).1.r.scope, AS (y1 b f at0).1.r.group, AS (y1 b f at0).1.r.name, AI 0, AS (y3 b f at0).1.s, .ow 8 gL, AI 0]⟩)]) (fun ⟨j, gL⟩ => j ≤ yn b f at0 ∧ (cst b f at0 j).2.2 = true) (fun ⟨j, gL⟩ => yn b f at0 - j) (0, 1) (⟨Nat.zero_le _, rfl⟩) (by simp only [anys, upds, offs, List.set_cons_zero, List.set_cons_succ]; repeat (first | exact Wk.nil | refine Wk.same ?_ | refine Wk.any ?_)) (by simp only [anys, upds, offs, List.set_cons_zero, List.set_cons_succ]; repeat (first | exact Sk.nil _ | refine Sk.same _ ?_ | refine Sk.scr _ (by decide) ?_ | refine Sk.eq _ (by rfl) ?_)) ?_
      rintro ⟨j, gL⟩ gs hJ
      refine AW.norm (by simp only [anys, upds, offs, List.set_cons_zero, List.set_cons_succ]; rfl) (by (try simp only [anys, upds, offs, List.set_cons_zero, List.set_cons_succ]); (try rfl)) ?_
      obtain ⟨hj, hjo⟩ := hJ
      refine AW.seq ?_
      refine AW.seq ?_
      refine AW.region ?_
      refine AL.rm ?_
      refine AL.r (rd_faddr_bx rfl fo_76_1 rfl rfl ⟨_, _, rfl⟩) ?_
      refine AL.r (rd_load_bx rfl ag_2 rfl rfl rfl) ?_
      refine AL.r (rd_bin rfl rfl rfl (fun _ => rfl)) ?_
      refine AL.nil ?_
      change AW _ _ _ _ _
      refine AW.cd rfl (fun h79 => ?_) (fun h79 => ?_)
      ·skip
       refine AW.skip ?_
       change AW _ _ _ _ _
       refine AW.seq ?_
       refine AW.block ?_
       refine AW.seq ?_
       refine AW.region ?_
       refine AL.rm ?_
       refine AL.rm ?_
       refine AL.rm ?_
       refine AL.r (rd_build rfl pl_76 ze_76 rfl rfl) ?_
       refine AL.op rfl (AOpB.op (op_call (yc_c b f at0 hb h0 j) rfl (by kernel_rfl) rfl (none) ?_))
       rintro r rfl
       refine AL.n ?_
       refine AL.rm ?_
       refine AL.r (rd_extract rfl rfl rfl) ?_
       refine AL.r (rd_extract rfl rfl rfl) ?_
       refine AL.r (rd_extract rfl rfl rfl) ?_
       refine AL.op rfl (AOpB.op (op_alloc 6 rfl ze_76 rfl ?_))
       refine AL.n ?_
       refine AL.op rfl (op_store_ rfl rfl rfl rfl rfl sz_76 ?_)
       refine AL.n ?_
       refine AL.ra ?_
       refine AL.ra ?_
       refine AL.nil ?_
       change AW _ _ _ _ _
       refine AW.seq ?_
       refine AW.seq ?_
       refine AW.region ?_
       refine AL.rm ?_
       refine AL.r (rd_un rfl rfl (fun _ => rfl)) ?_
       refine AL.nil ?_
       change AW _ _ _ _ _
       refine AW.cd rfl (fun h92 => ?_) (fun h92 => ?_)
       ·skip
        refine AW.seq ?_
        refine AW.region ?_
        refine AL.r (rd_build rfl pl_37 ze_37 rfl rfl) ?_
        refine AL.op rfl (op_store_ rfl rfl rfl rfl rfl sz_37 ?_)
        refine AL.n ?_
        refine AL.ra ?_
        refine AL.ra ?_
        refine AL.nil ?_
        change AW _ _ _ _ _
        refine AW.ret ?_
        change ResA _ _ _ _ _
        refine res3 rfl (ResV.cells rfl rfl ag_37 (Nat.le_of_ble_eq_true rfl) rfl) rfl (ResV.tmp rfl) rfl (ResV.tmp rfl) rfl ?_
        (have := cst_false (b := b) (f := f) (a := at0) (j := j + 1) (by rw [cst]; simp_all) (yn b f at0 - (j + 1))); rw [show j + 1 + (yn b f at0 - (j + 1)) = yn b f at0 by omega] at this; rw [get13_no (by unfold ok13; simp_all)]; rfl
       ·skip
        refine AW.skip ?_
        change AW _ _ _ _ _
        refine AW.seq ?_
        refine AW.region ?_
        have hcl := cst_len b f at0 j
        refine AL.r (rd_faddr_bx rfl fo_37_3 rfl rfl ⟨_, _, rfl⟩) ?_
        refine AL.r (rd_load_bx rfl ag_35 rfl rfl rfl) ?_
        refine AL.r (rd_faddr_bx rfl fo_76_2 rfl rfl ⟨_, _, rfl⟩) ?_
        refine AL.r (rd_load_bx rfl ag_9 rfl rfl rfl) ?_
        refine AL.op rfl (AOpB.op (bs_set rfl ap_35 ze_9 rfl rfl ?_))
        refine AL.n ?_
        refine AL.op rfl (op_appendM rfl ap_35 rfl rfl (src_s rfl) (by simp only [csS_len, cst_len, List.length_cons, List.length_nil]; omega) (by simp only [csS_len, cst_len, List.length_cons, List.length_nil]; omega) ?_)
        refine AL.n ?_
        refine AL.r (rd_faddr_bx rfl fo_37_3 rfl rfl ⟨_, _, rfl⟩) ?_
        refine AL.op rfl (op_storo rfl rfl rfl rfl rfl sz_35 ?_)
        refine AL.n ?_
        refine AL.nil ?_
        change AW _ _ _ _ _
        refine AW.region ?_
        refine AL.rm ?_
        refine AL.ra ?_
        refine AL.nil ?_
        change AW _ _ _ _ _
        refine AW.region ?_
        refine AL.rm ?_
        refine AL.r (rd_arith_add rfl rfl rfl (by first | exact IntWalk.i64_in _ (by omega) | rfl)) ?_
        refine AL.ra ?_
        refine AL.nil ?_
        refine ⟨⟨j + 1, gL + 1⟩, ?_, by first | omega | (simp only []; omega), ?_, ?_⟩
        ·exact ⟨by omega, by rw [cst, hjo]; simp_all⟩
        ·simp only [anys, upds, offs, List.set_cons_zero, List.set_cons_succ]; repeat (first | exact Wk.nil | refine Wk.same ?_ | refine Wk.any ?_)
        ·simp only [anys, upds, offs, List.set_cons_zero, List.set_cons_succ]; repeat (first | exact Sk.nil _ | refine Sk.same _ ?_ | refine Sk.scr _ (by decide) ?_ | refine Sk.eq _ (by first | rfl | exact cst_row b f at0) ?_)
      ·skip
       refine AW.exit ?_
       change AW _ _ _ _ _
       refine AW.seq ?_
       refine AW.region ?_
       obtain rfl : j = yn b f at0 := (by omega)
       refine AL.rm ?_
       refine AL.rm ?_
       refine AL.rm ?_
       refine AL.r (rd_build rfl pl_76 ze_76 rfl rfl) ?_
       refine AL.op rfl (AOpB.op (op_call (y6_c b f at0 hb h0) rfl (by kernel_rfl) rfl (none) ?_))
       rintro r rfl
       refine AL.n ?_
       refine AL.rm ?_
       refine AL.r (rd_extract rfl rfl rfl) ?_
       refine AL.r (rd_extract rfl rfl rfl) ?_
       refine AL.r (rd_extract rfl rfl rfl) ?_
       refine AL.op rfl (AOpB.op (op_alloc 9 rfl ze_76 rfl ?_))
       refine AL.n ?_
       refine AL.op rfl (op_store_ rfl rfl rfl rfl rfl sz_76 ?_)
       refine AL.n ?_
       refine AL.ra ?_
       refine AL.ra ?_
       refine AL.nil ?_
       change AW _ _ _ _ _
       refine AW.seq ?_
       refine AW.seq ?_
       refine AW.region ?_
       refine AL.rm ?_
       refine AL.r (rd_un rfl rfl (fun _ => rfl)) ?_
       refine AL.rm ?_
       refine AL.fk (d := 113) rfl (fun h113 => ?_) (fun h113 => ?_)
       ·skip
        refine AL.n ?_
        refine AL.rf ?_
        refine AL.rf ?_
        refine AL.rf ?_
        refine AL.r (rd_pick_t rfl rfl rfl) ?_
        refine AL.rm ?_
        refine AL.rf ?_
        refine AL.rf ?_
        refine AL.rf ?_
        refine AL.r (rd_pick_t rfl rfl rfl) ?_
        refine AL.nil ?_
        change AW _ _ _ _ _
        refine AW.cond_t rfl ?_
        refine AW.seq ?_
        refine AW.region ?_
        refine AL.r (rd_build rfl pl_37 ze_37 rfl rfl) ?_
        refine AL.op rfl (op_store_ rfl rfl rfl rfl rfl sz_37 ?_)
        refine AL.n ?_
        refine AL.ra ?_
        refine AL.ra ?_
        refine AL.nil ?_
        change AW _ _ _ _ _
        refine AW.ret ?_
        change ResA _ _ _ _ _
        refine res3 rfl (ResV.cells rfl rfl ag_37 (Nat.le_of_ble_eq_true rfl) rfl) rfl (ResV.tmp rfl) rfl (ResV.tmp rfl) rfl ?_
        rw [get13_no (fun hh => by unfold ok13 at hh; simp only [Bool.and_eq_true] at hh; have h9 : 1 ≤ (y2 b f at0).1.n ∧ (y2 b f at0).1.n ≤ 4 := (rightF_read hh.2).2.2.2.2; first | omega | simp_all)]; rfl
       ·skip
        refine AL.n ?_
        refine AL.ro (rd_faddr_bx rfl fo_76_1 rfl rfl ⟨_, _, rfl⟩) ?_
        refine AL.ro (rd_load_bx rfl ag_2 rfl rfl rfl) ?_
        refine AL.ro (rd_bin rfl rfl rfl (fun _ => rfl)) ?_
        refine AL.r (rd_pick_f rfl rfl rfl) ?_
        refine AL.rm ?_
        refine AL.fk (d := 118) rfl (fun h118 => ?_) (fun h118 => ?_)
        ·skip
         refine AL.n ?_
         refine AL.rf ?_
         refine AL.rf ?_
         refine AL.rf ?_
         refine AL.r (rd_pick_t rfl rfl rfl) ?_
         refine AL.nil ?_
         change AW _ _ _ _ _
         refine AW.cond_t rfl ?_
         refine AW.seq ?_
         refine AW.region ?_
         refine AL.r (rd_build rfl pl_37 ze_37 rfl rfl) ?_
         refine AL.op rfl (op_store_ rfl rfl rfl rfl rfl sz_37 ?_)
         refine AL.n ?_
         refine AL.ra ?_
         refine AL.ra ?_
         refine AL.nil ?_
         change AW _ _ _ _ _
         refine AW.ret ?_
         change ResA _ _ _ _ _
         refine res3 rfl (ResV.cells rfl rfl ag_37 (Nat.le_of_ble_eq_true rfl) rfl) rfl (ResV.tmp rfl) rfl (ResV.tmp rfl) rfl ?_
         rw [get13_no (fun hh => by unfold ok13 at hh; simp only [Bool.and_eq_true] at hh; have h9 : 1 ≤ (y2 b f at0).1.n ∧ (y2 b f at0).1.n ≤ 4 := (rightF_read hh.2).2.2.2.2; first | omega | simp_all)]; rfl
        ·skip
         refine AL.n ?_
         refine AL.ro (rd_faddr_bx rfl fo_76_1 rfl rfl ⟨_, _, rfl⟩) ?_
         refine AL.ro (rd_load_bx rfl ag_2 rfl rfl rfl) ?_
         refine AL.ro (rd_bin rfl rfl rfl (fun _ => rfl)) ?_
         refine AL.r (rd_pick_f rfl rfl rfl) ?_
         refine AL.nil ?_
         change AW _ _ _ _ _
         refine AW.cd rfl (fun h122 => ?_) (fun h122 => ?_)
         ·skip
          refine AW.seq ?_
          refine AW.region ?_
          refine AL.r (rd_build rfl pl_37 ze_37 rfl rfl) ?_
          refine AL.op rfl (op_store_ rfl rfl rfl rfl rfl sz_37 ?_)
          refine AL.n ?_
          refine AL.ra ?_
          refine AL.ra ?_
          refine AL.nil ?_
          change AW _ _ _ _ _
          refine AW.ret ?_
          change ResA _ _ _ _ _
          refine res3 rfl (ResV.cells rfl rfl ag_37 (Nat.le_of_ble_eq_true rfl) rfl) rfl (ResV.tmp rfl) rfl (ResV.tmp rfl) rfl ?_
          rw [get13_no (fun hh => by unfold ok13 at hh; simp only [Bool.and_eq_true] at hh; have h9 : 1 ≤ (y2 b f at0).1.n ∧ (y2 b f at0).1.n ≤ 4 := (rightF_read hh.2).2.2.2.2; first | omega | simp_all)]; rfl
         ·skip
          refine AW.skip ?_
          change AW _ _ _ _ _
          refine AW.seq ?_
          refine AW.region ?_
          refine AL.r (rd_faddr_bx rfl fo_76_1 rfl rfl ⟨_, _, rfl⟩) ?_
          refine AL.r (rd_load_bx rfl ag_2 rfl rfl rfl) ?_
          refine AL.r (rd_faddr_bx rfl fo_37_1 rfl rfl ⟨_, _, rfl⟩) ?_
          refine AL.op rfl (op_store_ rfl rfl rfl rfl rfl sz_3 ?_)
          refine AL.n ?_
          refine AL.nil ?_
          change AW _ _ _ _ _
          refine AW.seq ?_
          refine AW.region ?_
          refine AL.r (rd_faddr_bx rfl fo_76_1 rfl rfl ⟨_, _, rfl⟩) ?_
          refine AL.r (rd_load_bx rfl ag_2 rfl rfl rfl) ?_
          refine AL.r (rd_faddr_bx rfl fo_37_4 rfl rfl ⟨_, _, rfl⟩) ?_
          refine AL.op rfl (op_store_ rfl rfl rfl rfl rfl sz_2 ?_)
          refine AL.n ?_
          refine AL.nil ?_
          change AW _ _ _ _ _
          refine AW.seq ?_
          refine AW.seq ?_
          refine AW.region ?_
          refine AL.settlebx 1 5 rfl rfl rfl (by first | rfl | exact cont_owM _ _ _ _) ?_
          refine AL.no ?_
          refine AL.r (rd_loadN_bx rfl ag_37 rfl rfl (Nat.le_of_ble_eq_true rfl) rfl) ?_
          refine AL.op rfl (AOpB.op (op_call (rright13 (raw13 b f at0) (by have := cst_len b f at0 (yn b f at0); show (cst b f at0 (yn b f at0)).1.length ≤ _; omega)) rfl (by kernel_rfl) rfl (none) ?_))
          rintro r rfl
          refine AL.n ?_
          refine AL.r (rd_un rfl rfl (fun _ => rfl)) ?_
          refine AL.nil ?_
          change AW _ _ _ _ _
          refine AW.cd rfl (fun h132 => ?_) (fun h132 => ?_)
          ·skip
           refine AW.seq ?_
           refine AW.region ?_
           refine AL.r (rd_build rfl pl_37 ze_37 rfl rfl) ?_
           refine AL.op rfl (op_store_ rfl rfl rfl rfl rfl sz_37 ?_)
           refine AL.n ?_
           refine AL.ra ?_
           refine AL.ra ?_
           refine AL.nil ?_
           change AW _ _ _ _ _
           refine AW.ret ?_
           change ResA _ _ _ _ _
           refine res3 rfl (ResV.cells rfl rfl ag_37 (Nat.le_of_ble_eq_true rfl) rfl) rfl (ResV.tmp rfl) rfl (ResV.tmp rfl) rfl ?_
           rw [get13_no (by unfold ok13; simp_all)]; rfl
          ·skip
           refine AW.skip ?_
           change AW _ _ _ _ _
           refine AW.seq ?_
           refine AW.region ?_
           refine AL.r (rd_loadN_bx rfl ag_37 rfl rfl (Nat.le_of_ble_eq_true rfl) rfl) ?_
           refine AL.rm ?_
           refine AL.op rfl (op_store_ rfl rfl rfl rfl rfl sz_37 ?_)
           refine AL.n ?_
           refine AL.ra ?_
           refine AL.ra ?_
           refine AL.nil ?_
           change AW _ _ _ _ _
           refine AW.ret ?_
           change ResA _ _ _ _ _
           refine res3 rfl (ResV.cells rfl rfl ag_37 (Nat.le_of_ble_eq_true rfl) rfl) rfl (ResV.tmp rfl) rfl (ResV.tmp rfl) rfl ?_
           rw [get13, if_pos (by unfold ok13; simp_all)]; rfl
end
end Go.Proofs.YtpkjlmaphhileaaDoor
