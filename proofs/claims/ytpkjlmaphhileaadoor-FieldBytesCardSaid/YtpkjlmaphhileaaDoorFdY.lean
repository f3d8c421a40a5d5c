/- The law FieldBytes, walked over abstract states. Conditions: none beyond the statement's. -/
import Derived.Test.YtpkjlmaphhileaaDoorFbR
import Derived.Test.YtpkjlmaphhileaaDoorRby
import Derived.Test.YtpkjlmaphhileaaDoorFdA
import Derived.Test.YtpkjlmaphhileaaDoorOpF
namespace Go.Proofs.YtpkjlmaphhileaaDoor
set_option linter.unusedSimpArgs false
set_option linter.unusedVariables false
set_option maxRecDepth 100000
set_option maxRecDepth 100000
open Go.RowKit

section
variable (f : Int) (hf : i64R f) (h : okF f = false)
include hf h
theorem fput_90 (x : FldD) (hw : x.Wf) (hl : x.Light) : AC Tryd.prog 24 [.sl (byA [9]), .sc (.int .i64 f), x.av] (fun r => r = .s (.sl (byA [9]))) := by
  have c1 := hl.group; have c2 := hl.name; have c3 := hl.dflt; have c4 := hl.cases
  change AC _ _ [.sl (byA [9]), .sc (.int .i64 f), .ag [AI x.at_.scope, AS x.at_.group, AS x.at_.name, AI x.kind, AS x.dflt, .sl (csS x.cases), AI x.worth]] _
  refine AC.of' 58 5 Tryd.func24 rfl ?_
  change AW _ _ _ _ [TK.mk 0 .off, TK.mk 0 .off, TK.mk 0 .off, TK.mk 0 .off, TK.mk 0 .off]
  refine AW.seq ?_
  refine AW.region ?_
  refine AL.op rfl (AOpB.op (op_box 0 rfl rfl rfl rfl rfl ?_))
  refine AL.n ?_
  refine AL.ra ?_
  refine AL.nil ?_
  change AW _ _ _ _ _
  refine AW.seq ?_
  refine AW.region ?_
  refine AL.rm ?_
  refine AL.r (rd_faddr_bx rfl fo_37_0 rfl rfl ⟨_, _, rfl⟩) ?_
  refine AL.r (rd_loadN_bx rfl ag_23 rfl rfl (Nat.le_of_ble_eq_true rfl) rfl) ?_
  refine AL.op rfl (AOpB.op (op_call (pref_0 f hf h x.at_ hw.scope (by omega) (by omega)) rfl (by kernel_rfl) rfl (none) ?_))
  rintro r rfl
  refine AL.n ?_
  refine AL.ra ?_
  refine AL.nil ?_
  change AW _ _ _ _ _
  refine AW.seq ?_
  refine AW.region ?_
  refine AL.rm ?_
  refine AL.rm ?_
  refine AL.r (rd_faddr_bx rfl fo_37_1 rfl rfl ⟨_, _, rfl⟩) ?_
  refine AL.r (rd_load_bx rfl ag_3 rfl rfl rfl) ?_
  refine AL.op rfl (AOpB.op (op_call (pnum_0 f hf h x.kind hw.kind) rfl (by kernel_rfl) rfl (none) ?_))
  rintro r rfl
  refine AL.n ?_
  refine AL.ra ?_
  refine AL.nil ?_
  change AW _ _ _ _ _
  refine AW.seq ?_
  refine AW.region ?_
  refine AL.rm ?_
  refine AL.rm ?_
  refine AL.r (rd_faddr_bx rfl fo_37_2 rfl rfl ⟨_, _, rfl⟩) ?_
  refine AL.r (rd_load_bx rfl ag_9 rfl rfl rfl) ?_
  refine AL.op rfl (AOpB.op (op_call (ptext_0 f hf h x.dflt (by omega)) rfl (by kernel_rfl) rfl (none) ?_))
  rintro r rfl
  refine AL.n ?_
  refine AL.ra ?_
  refine AL.nil ?_
  change AW _ _ _ _ _
  refine AW.seq ?_
  refine AW.region ?_
  refine AL.rm ?_
  refine AL.rm ?_
  refine AL.r (rd_faddr_bx rfl fo_37_3 rfl rfl ⟨_, _, rfl⟩) ?_
  refine AL.r (rd_load_bx rfl ag_35 rfl rfl rfl) ?_
  refine AL.r (rd_len_sl rfl el_35 rfl) ?_
  refine AL.op rfl (AOpB.op (op_call (pnum_0 f hf h (x.cases.length : Nat) ⟨by omega, by omega⟩) rfl (by kernel_rfl) rfl (none) ?_))
  rintro r rfl
  refine AL.n ?_
  refine AL.ra ?_
  refine AL.nil ?_
  change AW _ _ _ _ _
  refine AW.seq ?_
  refine AW.seq ?_
  refine AW.region ?_
  refine AL.r (rd_faddr_bx rfl fo_37_3 rfl rfl ⟨_, _, rfl⟩) ?_
  refine AL.r (rd_load_bx rfl ag_35 rfl rfl rfl) ?_
  refine AL.r (rd_len_sl rfl el_35 rfl) ?_
  refine AL.rm ?_
  refine AL.nil ?_
  change AW _ _ _ _ _
  refine AW.block ?_
  refine AW.loopM (ι := Nat) [9, 35, 36, 37, 38, 39, 40, 41, 42, 43] (fun k => [(34, AI (k : Int)), (7, .sl (byA []))]) [1] (fun k => []) (fun k => k ≤ x.cases.length) (fun k => x.cases.length - k) 0 (Nat.zero_le _) (by simp only [anys, upds, offs, List.set_cons_zero, List.set_cons_succ]; repeat (first | exact Wk.nil | refine Wk.same ?_ | refine Wk.any ?_)) (by simp only [anys, upds, offs, List.set_cons_zero, List.set_cons_succ]; repeat (first | exact Sk.nil _ | refine Sk.same _ ?_ | refine Sk.scr _ (by decide) ?_)) ?_
  rintro k gs hJ
  refine AW.norm (by simp only [anys, upds, offs, List.set_cons_zero, List.set_cons_succ]; rfl) (by (try simp only [anys, upds, offs, List.set_cons_zero, List.set_cons_succ]); (try rfl)) ?_
  refine AW.seq ?_
  refine AW.region ?_
  refine AL.r (rd_bin rfl rfl rfl (fun _ => rfl)) ?_
  refine AL.nil ?_
  change AW _ _ _ _ _
  refine AW.seq ?_
  refine AW.cd rfl (fun h35 => ?_) (fun h35 => ?_)
  ·skip
   refine AW.skip ?_
   change AW _ _ _ _ _
   refine AW.seq ?_
   refine AW.block ?_
   refine AW.seq ?_
   refine AW.region ?_
   refine AL.r (rd_iaddr_sl rfl el_35 rfl rfl rfl (get_mapA (by omega)) rfl) ?_
   refine AL.r (rd_load_ep rfl ag_9 rfl rfl) ?_
   refine AL.ra ?_
   refine AL.nil ?_
   change AW _ _ _ _ _
   refine AW.region ?_
   have l5 := hl.case _ (List.getElem_mem (show k < x.cases.length by omega))
   refine AL.rm ?_
   refine AL.rm ?_
   refine AL.rm ?_
   refine AL.op rfl (AOpB.op (op_call (ptext_0 f hf h (x.cases[k]'(by omega)) (by omega)) rfl (by kernel_rfl) rfl (none) ?_))
   rintro r rfl
   refine AL.n ?_
   refine AL.op rfl (AOpB.op (op_append_e rfl ap_43 rfl (src_s rfl) ?_))
   refine AL.n ?_
   refine AL.ra ?_
   refine AL.nil ?_
   change AW _ _ _ _ _
   refine AW.region ?_
   refine AL.r (rd_arith_add rfl rfl rfl (by first | exact IntWalk.i64_in _ (by omega) | rfl)) ?_
   refine AL.rm ?_
   refine AL.nil ?_
   refine ⟨k + 1, ?_, by first | omega | (simp only []; omega), ?_, ?_⟩
   ·show k + 1 ≤ x.cases.length; omega
   ·simp only [anys, upds, offs, List.set_cons_zero, List.set_cons_succ]; repeat (first | exact Wk.nil | refine Wk.same ?_ | refine Wk.any ?_)
   ·simp only [anys, upds, offs, List.set_cons_zero, List.set_cons_succ]; repeat (first | exact Sk.nil _ | refine Sk.same _ ?_ | refine Sk.scr _ (by decide) ?_)
  ·skip
   refine AW.exit ?_
   change AW _ _ _ _ _
   refine AW.seq ?_
   refine AW.region ?_
   refine AL.rm ?_
   refine AL.rm ?_
   refine AL.r (rd_faddr_bx rfl fo_37_4 rfl rfl ⟨_, _, rfl⟩) ?_
   refine AL.r (rd_load_bx rfl ag_2 rfl rfl rfl) ?_
   refine AL.op rfl (AOpB.op (op_call (pnum_0 f hf h x.worth hw.worth) rfl (by kernel_rfl) rfl (none) ?_))
   rintro r rfl
   refine AL.n ?_
   refine AL.ra ?_
   refine AL.nil ?_
   change AW _ _ _ _ _
   refine AW.seq ?_
   refine AW.region ?_
   refine AL.rm ?_
   refine AL.r (rd_len_sl rfl el_43 rfl) ?_
   refine AL.rm ?_
   refine AL.r (rd_len_sl rfl el_43 rfl) ?_
   refine AL.r (rd_arith_add rfl rfl rfl (by first | exact IntWalk.i64_in _ (by omega) | rfl)) ?_
   refine AL.op rfl (AOpB.op (op_make0 2 rfl ap_43 rfl rfl (n := 1) (by simp [byA]) (by omega) (by omega) rfl ?_))
   refine AL.n ?_
   refine AL.ra ?_
   refine AL.nil ?_
   change AW _ _ _ _ _
   refine AW.seq ?_
   refine AW.region ?_
   refine AL.rm ?_
   refine AL.rm ?_
   refine AL.op rfl (op_append rfl ap_43 rfl rfl (src_s rfl) (by simp [byA]) (by simp [byA]) ?_)
   refine AL.n ?_
   refine AL.ra ?_
   refine AL.nil ?_
   change AW _ _ _ _ _
   refine AW.seq ?_
   refine AW.region ?_
   refine AL.rm ?_
   refine AL.rm ?_
   refine AL.op rfl (op_append rfl ap_43 rfl rfl (src_s rfl) (by simp [byA]) (by simp [byA]) ?_)
   refine AL.n ?_
   refine AL.ra ?_
   refine AL.nil ?_
   change AW _ _ _ _ _
   refine AW.ret ?_
   change ResA _ _ _ _ _
   refine res1 rfl (ResV.tmp rfl) (by first | rfl | exact setA_own rfl) ?_
   rfl
end
theorem fput_9 (f : Int) (x : FldD) (hf : i64R f) (h : okF f = true) (hw : x.Wf) (hl : x.Light) : AC Tryd.prog 24 [.sl (byA [9]), .sc (.int .i64 f), x.av] (fun r => r = .s (.sl (byA (9 :: putF f x)))) := fput_c [9] f x (by simp) hf h hw hl
theorem getF_bad (b : List UInt8) {f : Int} (hf : okF f = false) : (getF (newR b f)).1 = zeroF ∧ badP (getF (newR b f)).2 = true := by
  have h0 : badP (newR b f) = true := by unfold badP newR; rw [hf]; rfl
  exact getF_no (.inl (b0 h0))
theorem getF_zero {r : RdrD} (h : badP (getF r).2 = true) : (getF r).1 = zeroF := by
  unfold getF at h ⊢
  split
  · rename_i q; rw [if_pos q] at h; exact absurd (q.1.symm.trans h) (by decide)
  · rfl
section
variable {b : List UInt8} {f : Int} (hf : okF f = true)
include hf
theorem simF_bad (h : (get13 b f 0).2.2 = false) : badP (getF (newR b f)).2 = true ∧ (getF (newR b f)).1 = zeroF := by
  obtain ⟨_, c⟩ := fld_sim hf (newR_g hf b)
  have h1 : ok13 b f 0 = false := by
    unfold get13 at h
    cases e : ok13 b f 0 with
    | false => rfl
    | true => rw [e, if_pos rfl] at h; cases h
  exact ⟨c h1, getF_zero (c h1)⟩
theorem simF_good (hl : b.length ≤ 549755813888) (h : (get13 b f 0).2.2 = true) : badP (getF (newR b f)).2 = false ∧ (getF (newR b f)).1 = (get13 b f 0).1 ∧ leftP (getF (newR b f)).2 = (b.length : Int) - (get13 b f 0).2.1 ∧ 0 ≤ (get13 b f 0).2.1 ∧ (get13 b f 0).2.1 ≤ (b.length : Int) := by
  obtain ⟨a, _⟩ := fld_sim hf (newR_g hf b)
  have h1 : ok13 b f 0 = true := by
    unfold get13 at h
    cases e : ok13 b f 0 with
    | true => rfl
    | false => rw [e, if_neg (by decide)] at h; cases h
  obtain ⟨c1, c2⟩ := a h1
  have e : get13 b f 0 = (raw13 b f 0, (y6 b f 0).2.1, true) := by unfold get13; rw [if_pos h1]
  have h2 := (getF_ok (newR_ok hl f)).ok
  have h3 := h2.lo
  have h4 := h2.hi
  rw [c2.at_] at h3 h4
  rw [c2.b] at h4
  rw [e]
  exact ⟨RdG.nb hf c2, c1, rd_left hf c2, h3, h4⟩
theorem putF_at {x : FldD} (hw : x.Wf) (hl : x.Light) : (rightF x = true → (getF (newR (putF f x) f)).1 = x ∧ endP (getF (newR (putF f x) f)).2 = 0) ∧ (rightF x = false → badP (getF (newR (putF f x) f)).2 = true) := by
  have h0 : (newR (putF f x) f).At f [] (putF f x ++ []) := by
    refine ⟨?_, rfl, by show (!okF f) = false; rw [hf]; rfl, rfl, hf⟩
    show putF f x = _
    simp
  obtain ⟨a, c⟩ := fld_at h0 hw hl
  exact ⟨fun h => ⟨(a h).1, endP_at (a h).2⟩, c⟩
end
theorem raw13_len (b : List UInt8) (f : Int) : (get13 b f 0).1.cases.length ≤ 1000000 := by
  unfold get13
  split
  · rename_i h
    have := (rightF_read (x := raw13 b f 0) (by unfold ok13 at h; simp_all)).2.2.1
    show (raw13 b f 0).cases.length ≤ 1000000
    omega
  · show zeroF.cases.length ≤ 1000000
    decide
section
variable (x : FldD) (f : Int) (b : List UInt8) (hw : x.Wf) (hf : i64R f)
include hw hf
set_option maxHeartbeats 1000000 in
theorem fbytes_0 (h1 : ¬ f = 1) (h2 : ¬ f = 2) (hok : okF f = false) : AC Tryd.prog 6 [.ag [AI x.at_.scope, AS x.at_.group, AS x.at_.name, AI x.kind, AS x.dflt, .sl (csS x.cases), AI x.worth], .sc (.int .i64 f), .sl (byA b)] (fun r => r = .s (AB true)) := by
  have hbb := byA_len b
  change AC _ _ [.ag [AI x.at_.scope, AS x.at_.group, AS x.at_.name, AI x.kind, AS x.dflt, .sl (csS x.cases), AI x.worth], .sc (.int .i64 f), .sl (byA b)] _
  refine AC.of' 117 7 Tryd.func6 rfl ?_
  change AW _ _ _ _ [TK.mk 0 .off, TK.mk 0 .off, TK.mk 0 .off, TK.mk 0 .off, TK.mk 0 .off, TK.mk 0 .off, TK.mk 0 .off]
  refine AW.seq ?_
  refine AW.region ?_
  refine AL.op rfl (AOpB.op (op_box 2 rfl rfl rfl rfl rfl ?_))
  refine AL.no ?_
  refine AL.ra ?_
  refine AL.nil ?_
  change AW _ _ _ _ _
  refine AW.seq ?_
  refine AW.seq ?_
  refine AW.region ?_
  refine AL.op rfl (AOpB.op (op_call (awake_c) rfl (by kernel_rfl) rfl (none) ?_))
  rintro r rfl
  refine AL.no ?_
  refine AL.r (rd_un rfl rfl (fun _ => rfl)) ?_
  refine AL.nil ?_
  change AW _ _ _ _ _
  refine AW.cond_f rfl ?_
  refine AW.skip ?_
  change AW _ _ _ _ _
  refine AW.seq ?_
  refine AW.seq ?_
  refine AW.region ?_
  refine AL.r (rd_loadN_bx rfl ag_37 rfl rfl (Nat.le_of_ble_eq_true rfl) rfl) ?_
  refine AL.op rfl (AOpB.op (op_call (rheavy_c x) rfl (by kernel_rfl) rfl (none) ?_))
  rintro r rfl
  refine AL.no ?_
  refine AL.rm ?_
  refine AL.fk (d := 19) rfl (fun h19 => ?_) (fun h19 => ?_)
  ·skip
   refine AL.n ?_
   refine AL.rf ?_
   refine AL.rf ?_
   refine AL.rf ?_
   refine AL.r (rd_pick_t rfl rfl rfl) ?_
   refine AL.nil ?_
   change AW _ _ _ _ _
   refine AW.cond_t rfl ?_
   refine AW.seq ?_
   refine AW.region ?_
   refine AL.ra ?_
   refine AL.nil ?_
   change AW _ _ _ _ _
   refine AW.ret ?_
   change ResA _ _ _ _ _
   refine res1 rfl (ResV.tmp rfl) rfl ?_
   rfl
  ·skip
   refine AL.n ?_
   refine AL.ro (rd_move rfl rfl) ?_
   refine AL.ro (rd_len_sl rfl el_43 rfl) ?_
   refine AL.ro (rd_bin rfl rfl rfl (fun _ => rfl)) ?_
   refine AL.r (rd_pick_f rfl rfl rfl) ?_
   refine AL.nil ?_
   change AW _ _ _ _ _
   refine AW.cd rfl (fun h23 => ?_) (fun h23 => ?_)
   ·skip
    refine AW.seq ?_
    refine AW.region ?_
    refine AL.ra ?_
    refine AL.nil ?_
    change AW _ _ _ _ _
    refine AW.ret ?_
    change ResA _ _ _ _ _
    refine res1 rfl (ResV.tmp rfl) rfl ?_
    rfl
   ·skip
    refine AW.skip ?_
    change AW _ _ _ _ _
    refine AW.seq ?_
    refine AW.region ?_
    have hl := heavyF_light (x := x) (by assumption)
    refine AL.op rfl (AOpB.op (bs_set rfl ap_43 ze_5 rfl rfl ?_))
    refine AL.no ?_
    refine AL.rm ?_
    refine AL.r (rd_loadN_bx rfl ag_37 rfl rfl (Nat.le_of_ble_eq_true rfl) rfl) ?_
    refine AL.op rfl (AOpB.op (op_call (fput_90 f hf hok x hw hl) rfl (by kernel_rfl) rfl (none) ?_))
    rintro r rfl
    refine AL.no ?_
    refine AL.ra ?_
    refine AL.nil ?_
    change AW _ _ _ _ _
    refine AW.seq ?_
    refine AW.seq ?_
    refine AW.region ?_
    refine AL.rm ?_
    refine AL.r (rd_bin rfl rfl rfl (fun _ => rfl)) ?_
    refine AL.rm ?_
    refine AL.fk (d := 30) rfl (fun h30 => ?_) (fun h30 => ?_)
    ·skip
     refine AL.n ?_
     refine AL.ro (rd_move rfl rfl) ?_
     refine AL.ro (rd_bin rfl rfl rfl (fun _ => rfl)) ?_
     refine AL.r (rd_pick_t rfl rfl rfl) ?_
     refine AL.nil ?_
     change AW _ _ _ _ _
     refine AW.cd rfl (fun h33 => ?_) (fun h33 => ?_)
     ·skip
      refine AW.seq ?_
      refine AW.region ?_
      refine AL.rm ?_
      refine AL.r (rd_b2s rfl (by kernel_rfl) (src_s rfl)) ?_
      refine AL.r (rd_seq rfl rfl rfl) ?_
      refine AL.rm ?_
      refine AL.fk (d := 37) rfl (fun h37 => ?_) (fun h37 => ?_)
      ·skip
       refine AL.n ?_
       refine AL.ro (rd_move rfl rfl) ?_
       refine AL.ro (rd_move rfl rfl) ?_
       refine AL.on rfl rfl rfl (calloR (rnew_c b (by omega) f 0) [0] ?_)
       rintro y os' ⟨rfl, rfl⟩
       refine AL.noR ?_
       refine AL.on rfl rfl rfl (calloR (fget_c 1 (newR b f) (newR_ok (by omega) f)) [0] ?_)
       rintro y os' ⟨rfl, rfl⟩
       refine AL.noR ?_
       refine AL.ro (rd_build rfl pl_37 ze_37 rfl rfl) ?_
       refine AL.on rfl rfl rfl (AOpB.op (op_call (same_c (getF (newR b f)).1 zeroF) rfl (by kernel_rfl) rfl (none) ?_))
       rintro r rfl
       refine AL.no ?_
       refine AL.r (rd_pick_t rfl rfl rfl) ?_
       refine AL.ra ?_
       refine AL.nil ?_
       change AW _ _ _ _ _
       refine AW.ret ?_
       change ResA _ _ _ _ _
       refine res1 rfl (ResV.tmp rfl) rfl ?_
       rw [(getF_bad b hok).1]; rfl
      ·skip
       exact absurd trivial h37
     ·skip
      omega
    ·skip
     omega
set_option maxHeartbeats 4000000 in
theorem fbytes_1 (h1 : f = 1) (hok : okF f = true) : AC Tryd.prog 6 [.ag [AI x.at_.scope, AS x.at_.group, AS x.at_.name, AI x.kind, AS x.dflt, .sl (csS x.cases), AI x.worth], .sc (.int .i64 f), .sl (byA b)] (fun r => r = .s (AB true)) := by
  have hbb := byA_len b
  change AC _ _ [.ag [AI x.at_.scope, AS x.at_.group, AS x.at_.name, AI x.kind, AS x.dflt, .sl (csS x.cases), AI x.worth], .sc (.int .i64 f), .sl (byA b)] _
  refine AC.of' 117 9 Tryd.func6 rfl ?_
  change AW _ _ _ _ [TK.mk 0 .off, TK.mk 0 .off, TK.mk 0 .off, TK.mk 0 .off, TK.mk 0 .off, TK.mk 0 .off, TK.mk 0 .off, TK.mk 0 .off, TK.mk 0 .off]
  refine AW.seq ?_
  refine AW.region ?_
  refine AL.op rfl (AOpB.op (op_box 4 rfl rfl rfl rfl rfl ?_))
  refine AL.no ?_
  refine AL.ra ?_
  refine AL.nil ?_
  change AW _ _ _ _ _
  refine AW.seq ?_
  refine AW.seq ?_
  refine AW.region ?_
  refine AL.op rfl (AOpB.op (op_call (awake_c) rfl (by kernel_rfl) rfl (none) ?_))
  rintro r rfl
  refine AL.no ?_
  refine AL.r (rd_un rfl rfl (fun _ => rfl)) ?_
  refine AL.nil ?_
  change AW _ _ _ _ _
  refine AW.cond_f rfl ?_
  refine AW.skip ?_
  change AW _ _ _ _ _
  refine AW.seq ?_
  refine AW.seq ?_
  refine AW.region ?_
  refine AL.r (rd_loadN_bx rfl ag_37 rfl rfl (Nat.le_of_ble_eq_true rfl) rfl) ?_
  refine AL.op rfl (AOpB.op (op_call (rheavy_c x) rfl (by kernel_rfl) rfl (none) ?_))
  rintro r rfl
  refine AL.no ?_
  refine AL.rm ?_
  refine AL.fk (d := 19) rfl (fun h19 => ?_) (fun h19 => ?_)
  ·skip
   refine AL.n ?_
   refine AL.rf ?_
   refine AL.rf ?_
   refine AL.rf ?_
   refine AL.r (rd_pick_t rfl rfl rfl) ?_
   refine AL.nil ?_
   change AW _ _ _ _ _
   refine AW.cond_t rfl ?_
   refine AW.seq ?_
   refine AW.region ?_
   refine AL.ra ?_
   refine AL.nil ?_
   change AW _ _ _ _ _
   refine AW.ret ?_
   change ResA _ _ _ _ _
   refine res1 rfl (ResV.tmp rfl) rfl ?_
   rfl
  ·skip
   refine AL.n ?_
   refine AL.ro (rd_move rfl rfl) ?_
   refine AL.ro (rd_len_sl rfl el_43 rfl) ?_
   refine AL.ro (rd_bin rfl rfl rfl (fun _ => rfl)) ?_
   refine AL.r (rd_pick_f rfl rfl rfl) ?_
   refine AL.nil ?_
   change AW _ _ _ _ _
   refine AW.cd rfl (fun h23 => ?_) (fun h23 => ?_)
   ·skip
    refine AW.seq ?_
    refine AW.region ?_
    refine AL.ra ?_
    refine AL.nil ?_
    change AW _ _ _ _ _
    refine AW.ret ?_
    change ResA _ _ _ _ _
    refine res1 rfl (ResV.tmp rfl) rfl ?_
    rfl
   ·skip
    refine AW.skip ?_
    change AW _ _ _ _ _
    refine AW.seq ?_
    refine AW.region ?_
    have hl := heavyF_light (x := x) (by assumption)
    have hpl := putF_len (f := f) hl
    have hat := putF_at hok hw hl
    refine AL.op rfl (AOpB.op (bs_set rfl ap_43 ze_5 rfl rfl ?_))
    refine AL.no ?_
    refine AL.rm ?_
    refine AL.r (rd_loadN_bx rfl ag_37 rfl rfl (Nat.le_of_ble_eq_true rfl) rfl) ?_
    refine AL.op rfl (AOpB.op (op_call (fput_9 f x hf hok hw hl) rfl (by kernel_rfl) rfl (none) ?_))
    rintro r rfl
    refine AL.no ?_
    refine AL.ra ?_
    refine AL.nil ?_
    change AW _ _ _ _ _
    refine AW.seq ?_
    refine AW.seq ?_
    refine AW.region ?_
    refine AL.rm ?_
    refine AL.r (rd_bin rfl rfl rfl (fun _ => rfl)) ?_
    refine AL.rm ?_
    refine AL.fk (d := 30) rfl (fun h30 => ?_) (fun h30 => ?_)
    ·skip
     omega
    ·skip
     refine AL.n ?_
     refine AL.rf ?_
     refine AL.rf ?_
     refine AL.r (rd_pick_f rfl rfl rfl) ?_
     refine AL.nil ?_
     change AW _ _ _ _ _
     refine AW.cond_f rfl ?_
     refine AW.skip ?_
     change AW _ _ _ _ _
     refine AW.seq ?_
     refine AW.region ?_
     refine AL.rm ?_
     refine AL.r (rd_byr_from rfl el_43 rfl rfl (m := 1) rfl (by simp)) ?_
     refine AL.rm ?_
     refine AL.op rfl (calloR (rnew_c (putF f x) (by omega) f 0) [0] ?_)
     rintro y os' ⟨rfl, rfl⟩
     refine AL.noR ?_
     refine AL.ra ?_
     refine AL.nil ?_
     change AW _ _ _ _ _
     refine AW.seq ?_
     refine AW.region ?_
     refine AL.rm ?_
     refine AL.op rfl (calloR (fget_c 1 (newR (putF f x) f) (newR_ok (by omega) f)) [0] ?_)
     rintro y os' ⟨rfl, rfl⟩
     refine AL.noR ?_
     have hend : rightF x = true → endP (getF (newR (putF f x) f)).2 = 0 := fun h => (hat.1 h).2
     have hsame : rightF x = true → x = (getF (newR (putF f x) f)).1 := fun h => (hat.1 h).1.symm
     refine AL.op rfl (AOpB.op (op_alloc 6 rfl ze_37 rfl ?_))
     refine AL.no ?_
     refine AL.op rfl (op_store_ rfl rfl rfl rfl rfl sz_37 ?_)
     refine AL.no ?_
     refine AL.nil ?_
     change AW _ _ _ _ _
     refine AW.seq ?_
     refine AW.seq ?_
     refine AW.draw (by kernel_rfl) ?_
     refine AD.r 0 rfl (rd_move rfl rfl) rfl ?_
     refine AD.r 1 rfl (rd_byr_from rfl el_43 rfl rfl (m := 1) rfl (by simp)) rfl ?_
     refine AD.r 2 rfl (rd_b2s rfl (by kernel_rfl) (src_s rfl)) rfl ?_
     refine AD.r 3 rfl (rd_move rfl rfl) rfl ?_
     refine AD.r 4 rfl (rd_loadN_bx rfl ag_37 rfl rfl (Nat.le_of_ble_eq_true rfl) rfl) rfl ?_
     refine AD.move 5 rfl (by kernel_rfl) rfl (op_call (rput13_c f hf hok x hw hl) rfl (by kernel_rfl) rfl (none) ?_)
     rintro r rfl
     refine AD.n ?_
     refine AD.r 6 rfl (rd_b2s rfl (by kernel_rfl) (src_s rfl)) rfl ?_
     refine AD.r 7 rfl (rd_sne rfl rfl rfl) rfl ?_
     refine AD.done (by kernel_rfl) ?_
     change AW _ _ _ _ _
     refine AW.cd rfl (fun h58 => ?_) (fun h58 => ?_)
     ·skip
      exact (h58 rfl).elim
     ·skip
      refine AW.skip ?_
      change AW _ _ _ _ _
      refine AW.seq ?_
      refine AW.seq ?_
      refine AW.region ?_
      refine AL.r (rd_loadN_bx rfl ag_37 rfl rfl (Nat.le_of_ble_eq_true rfl) rfl) ?_
      refine AL.op rfl (AOpB.op (op_call (rright13 x (by have := hl.cases; omega)) rfl (by kernel_rfl) rfl (none) ?_))
      rintro r rfl
      refine AL.no ?_
      refine AL.rm ?_
      refine AL.fk (d := 61) rfl (fun h61 => ?_) (fun h61 => ?_)
      ·skip
       refine AL.n ?_
       refine AL.ro (rd_loadN_bx rfl ag_37 rfl rfl (Nat.le_of_ble_eq_true rfl) rfl) ?_
       refine AL.ro (rd_loadN_bx rfl ag_37 rfl rfl (Nat.le_of_ble_eq_true rfl) rfl) ?_
       refine AL.on rfl rfl rfl (AOpB.op (op_call (same_c x (getF (newR (putF f x) f)).1) rfl (by kernel_rfl) rfl (none) ?_))
       rintro r rfl
       refine AL.no ?_
       refine AL.ro (rd_un rfl rfl (fun _ => rfl)) ?_
       refine AL.ro (rd_move rfl rfl) ?_
       refine AL.fk (d := 66) rfl (fun h66 => ?_) (fun h66 => ?_)
       ·skip
        exact (h66 (hsame (by assumption))).elim
       ·skip
        refine AL.n ?_
        refine AL.ro (rd_move rfl rfl) ?_
        refine AL.on rfl rfl rfl (calloR (rend_c 1 (getF (newR (putF f x) f)).2 (getF_ok (newR_ok (by omega) f)).ok) [0] ?_)
        rintro y os' ⟨rfl, rfl⟩
        refine AL.noR ?_
        refine AL.ro (rd_bin rfl rfl rfl (fun _ => rfl)) ?_
        refine AL.ro (rd_pick_f rfl rfl rfl) ?_
        refine AL.r (rd_pick_t rfl rfl rfl) ?_
        refine AL.rm ?_
        refine AL.fk (d := 72) rfl (fun h72 => ?_) (fun h72 => ?_)
        ·skip
         exact absurd (hend (by assumption)) h72
        ·skip
         refine AL.n ?_
         refine AL.ro (rd_loadN_bx rfl ag_37 rfl rfl (Nat.le_of_ble_eq_true rfl) rfl) ?_
         refine AL.on rfl rfl rfl (AOpB.op (op_call (rright13 x (by have := hl.cases; omega)) rfl (by kernel_rfl) rfl (none) ?_))
         rintro r rfl
         refine AL.no ?_
         refine AL.ro (rd_un rfl rfl (fun _ => rfl)) ?_
         refine AL.ro (rd_move rfl rfl) ?_
         refine AL.fk (d := 76) rfl (fun h76 => ?_) (fun h76 => ?_)
         ·skip
          exact absurd (h61.symm.trans h76) (by decide)
         ·skip
          refine AL.n ?_
          refine AL.rf ?_
          refine AL.rf ?_
          refine AL.rf ?_
          refine AL.ro (rd_pick_f rfl rfl rfl) ?_
          refine AL.r (rd_pick_f rfl rfl rfl) ?_
          refine AL.nil ?_
          change AW _ _ _ _ _
          refine AW.cond_f rfl ?_
          refine AW.skip ?_
          change AW _ _ _ _ _
          refine AW.seq ?_
          refine AW.region ?_
          refine AL.rm ?_
          refine AL.rm ?_
          refine AL.op rfl (calloR (rnew_c b (by omega) f 0) [1] ?_)
          rintro y os' ⟨rfl, rfl⟩
          refine AL.noR ?_
          refine AL.ra ?_
          refine AL.nil ?_
          change AW _ _ _ _ _
          refine AW.seq ?_
          refine AW.region ?_
          refine AL.rm ?_
          refine AL.op rfl (calloR (fget_c 1 (newR b f) (newR_ok (by omega) f)) [1] ?_)
          rintro y os' ⟨rfl, rfl⟩
          refine AL.noR ?_
          refine AL.op rfl (AOpB.op (op_alloc 7 rfl ze_37 rfl ?_))
          refine AL.no ?_
          refine AL.op rfl (op_store_ rfl rfl rfl rfl rfl sz_37 ?_)
          refine AL.no ?_
          refine AL.nil ?_
          change AW _ _ _ _ _
          refine AW.seq ?_
          refine AW.region ?_
          refine AL.rm ?_
          refine AL.rm ?_
          refine AL.op rfl (AOpB.op (op_call (rget13_c b f 0 (by omega) (by omega)) rfl (by kernel_rfl) rfl (none) ?_))
          rintro r rfl
          refine AL.no ?_
          refine AL.rm ?_
          refine AL.r (rd_extract rfl rfl rfl) ?_
          refine AL.r (rd_extract rfl rfl rfl) ?_
          refine AL.r (rd_extract rfl rfl rfl) ?_
          refine AL.op rfl (AOpB.op (op_alloc 8 rfl ze_37 rfl ?_))
          refine AL.no ?_
          refine AL.op rfl (op_store_ rfl rfl rfl rfl rfl sz_37 ?_)
          refine AL.no ?_
          refine AL.ra ?_
          refine AL.ra ?_
          refine AL.nil ?_
          change AW _ _ _ _ _
          refine AW.seq ?_
          refine AW.seq ?_
          refine AW.region ?_
          refine AL.rm ?_
          refine AL.r (rd_un rfl rfl (fun _ => rfl)) ?_
          refine AL.nil ?_
          change AW _ _ _ _ _
          refine AW.cd rfl (fun h95 => ?_) (fun h95 => ?_)
          ·skip
           refine AW.seq ?_
           refine AW.region ?_
           obtain ⟨e1, e2⟩ := simF_bad hok (b := b) (by assumption)
           refine AL.rm ?_
           refine AL.op rfl (calloR (rbad_c 1 (getF (newR b f)).2) [1] ?_)
           rintro y os' ⟨rfl, rfl⟩
           refine AL.noR ?_
           refine AL.rm ?_
           refine AL.fk (d := 98) rfl (fun h98 => ?_) (fun h98 => ?_)
           ·skip
            refine AL.n ?_
            refine AL.ro (rd_loadN_bx rfl ag_37 rfl rfl (Nat.le_of_ble_eq_true rfl) rfl) ?_
            refine AL.ro (rd_build rfl pl_37 ze_37 rfl rfl) ?_
            refine AL.on rfl rfl rfl (AOpB.op (op_call (same_c (getF (newR b f)).1 zeroF) rfl (by kernel_rfl) rfl (none) ?_))
            rintro r rfl
            refine AL.no ?_
            refine AL.r (rd_pick_t rfl rfl rfl) ?_
            refine AL.ra ?_
            refine AL.nil ?_
            change AW _ _ _ _ _
            refine AW.ret ?_
            change ResA _ _ _ _ _
            refine res1 rfl (ResV.tmp rfl) rfl ?_
            rw [e2]; rfl
           ·skip
            exact absurd (e1.symm.trans h98) (by decide)
          ·skip
           refine AW.skip ?_
           change AW _ _ _ _ _
           refine AW.seq ?_
           refine AW.region ?_
           obtain ⟨e1, e2, e3, e4, e5⟩ := simF_good hok (b := b) (by omega) (by assumption)
           refine AL.rm ?_
           refine AL.op rfl (calloR (rbad_c 1 (getF (newR b f)).2) [1] ?_)
           rintro y os' ⟨rfl, rfl⟩
           refine AL.noR ?_
           refine AL.r (rd_un rfl rfl (fun _ => rfl)) ?_
           refine AL.rm ?_
           refine AL.fk (d := 106) rfl (fun h106 => ?_) (fun h106 => ?_)
           ·skip
            refine AL.n ?_
            refine AL.ro (rd_move rfl rfl) ?_
            refine AL.on rfl rfl rfl (calloR (rleft_c 1 (getF (newR b f)).2 (getF_ok (newR_ok (by omega) f)).ok) [1] ?_)
            rintro y os' ⟨rfl, rfl⟩
            refine AL.noR ?_
            refine AL.ro (rd_move rfl rfl) ?_
            refine AL.ro (rd_len_sl rfl el_43 rfl) ?_
            refine AL.ro (rd_move rfl rfl) ?_
            refine AL.ro (rd_arith_sub rfl rfl rfl (IntWalk.i64_in _ (by omega))) ?_
            refine AL.ro (rd_bin rfl rfl rfl (fun _ => rfl)) ?_
            refine AL.r (rd_pick_t rfl rfl rfl) ?_
            refine AL.rm ?_
            refine AL.fk (d := 115) rfl (fun h115 => ?_) (fun h115 => ?_)
            ·skip
             refine AL.n ?_
             refine AL.ro (rd_loadN_bx rfl ag_37 rfl rfl (Nat.le_of_ble_eq_true rfl) rfl) ?_
             refine AL.ro (rd_loadN_bx rfl ag_37 rfl rfl (Nat.le_of_ble_eq_true rfl) rfl) ?_
             refine AL.on rfl rfl rfl (AOpB.op (op_call (rsame_c (getF (newR b f)).1 (get13 b f 0).1 (by rw [e2]; have := raw13_len b f; omega)) rfl (by kernel_rfl) rfl (none) ?_))
             rintro r rfl
             refine AL.no ?_
             refine AL.r (rd_pick_t rfl rfl rfl) ?_
             refine AL.ra ?_
             refine AL.nil ?_
             change AW _ _ _ _ _
             refine AW.ret ?_
             change ResA _ _ _ _ _
             refine res1 rfl (ResV.tmp rfl) rfl ?_
             rw [decide_eq_true e2]
            ·skip
             exact absurd e3 h115
           ·skip
            exact absurd (e1.symm.trans h106) (by decide)
      ·skip
       refine AL.n ?_
       refine AL.rf ?_
       refine AL.rf ?_
       refine AL.rf ?_
       refine AL.rf ?_
       refine AL.rf ?_
       refine AL.ru ?_
       refine AL.ru ?_
       refine AL.ru ?_
       refine AL.rf ?_
       refine AL.r (rd_pick_f rfl rfl rfl) ?_
       refine AL.rm ?_
       refine AL.ro (rd_loadN_bx rfl ag_37 rfl rfl (Nat.le_of_ble_eq_true rfl) rfl) ?_
       refine AL.on rfl rfl rfl (AOpB.op (op_call (rright13 x (by have := hl.cases; omega)) rfl (by kernel_rfl) rfl (none) ?_))
       rintro r rfl
       refine AL.no ?_
       refine AL.ro (rd_un rfl rfl (fun _ => rfl)) ?_
       refine AL.ro (rd_move rfl rfl) ?_
       refine AL.fk (d := 76) rfl (fun h76 => ?_) (fun h76 => ?_)
       ·skip
        refine AL.n ?_
        refine AL.ro (rd_move rfl rfl) ?_
        refine AL.on rfl rfl rfl (calloR (rbad_c 1 (getF (newR (putF f x) f)).2) [0] ?_)
        rintro y os' ⟨rfl, rfl⟩
        refine AL.noR ?_
        refine AL.ro (rd_un rfl rfl (fun _ => rfl)) ?_
        refine AL.ro (rd_pick_t rfl rfl rfl) ?_
        refine AL.r (rd_pick_f rfl rfl rfl) ?_
        refine AL.nil ?_
        change AW _ _ _ _ _
        refine AW.cd rfl (fun h81 => ?_) (fun h81 => ?_)
        ·skip
         exact absurd ((hat.2 (by assumption)).symm.trans h81) (by decide)
        ·skip
         refine AW.skip ?_
         change AW _ _ _ _ _
         refine AW.seq ?_
         refine AW.region ?_
         refine AL.rm ?_
         refine AL.rm ?_
         refine AL.op rfl (calloR (rnew_c b (by omega) f 0) [1] ?_)
         rintro y os' ⟨rfl, rfl⟩
         refine AL.noR ?_
         refine AL.ra ?_
         refine AL.nil ?_
         change AW _ _ _ _ _
         refine AW.seq ?_
         refine AW.region ?_
         refine AL.rm ?_
         refine AL.op rfl (calloR (fget_c 1 (newR b f) (newR_ok (by omega) f)) [1] ?_)
         rintro y os' ⟨rfl, rfl⟩
         refine AL.noR ?_
         refine AL.op rfl (AOpB.op (op_alloc 7 rfl ze_37 rfl ?_))
         refine AL.no ?_
         refine AL.op rfl (op_store_ rfl rfl rfl rfl rfl sz_37 ?_)
         refine AL.no ?_
         refine AL.nil ?_
         change AW _ _ _ _ _
         refine AW.seq ?_
         refine AW.region ?_
         refine AL.rm ?_
         refine AL.rm ?_
         refine AL.op rfl (AOpB.op (op_call (rget13_c b f 0 (by omega) (by omega)) rfl (by kernel_rfl) rfl (none) ?_))
         rintro r rfl
         refine AL.no ?_
         refine AL.rm ?_
         refine AL.r (rd_extract rfl rfl rfl) ?_
         refine AL.r (rd_extract rfl rfl rfl) ?_
         refine AL.r (rd_extract rfl rfl rfl) ?_
         refine AL.op rfl (AOpB.op (op_alloc 8 rfl ze_37 rfl ?_))
         refine AL.no ?_
         refine AL.op rfl (op_store_ rfl rfl rfl rfl rfl sz_37 ?_)
         refine AL.no ?_
         refine AL.ra ?_
         refine AL.ra ?_
         refine AL.nil ?_
         change AW _ _ _ _ _
         refine AW.seq ?_
         refine AW.seq ?_
         refine AW.region ?_
         refine AL.rm ?_
         refine AL.r (rd_un rfl rfl (fun _ => rfl)) ?_
         refine AL.nil ?_
         change AW _ _ _ _ _
         refine AW.cd rfl (fun h95 => ?_) (fun h95 => ?_)
         ·skip
          refine AW.seq ?_
          refine AW.region ?_
          obtain ⟨e1, e2⟩ := simF_bad hok (b := b) (by assumption)
          refine AL.rm ?_
          refine AL.op rfl (calloR (rbad_c 1 (getF (newR b f)).2) [1] ?_)
          rintro y os' ⟨rfl, rfl⟩
          refine AL.noR ?_
          refine AL.rm ?_
          refine AL.fk (d := 98) rfl (fun h98 => ?_) (fun h98 => ?_)
          ·skip
           refine AL.n ?_
           refine AL.ro (rd_loadN_bx rfl ag_37 rfl rfl (Nat.le_of_ble_eq_true rfl) rfl) ?_
           refine AL.ro (rd_build rfl pl_37 ze_37 rfl rfl) ?_
           refine AL.on rfl rfl rfl (AOpB.op (op_call (same_c (getF (newR b f)).1 zeroF) rfl (by kernel_rfl) rfl (none) ?_))
           rintro r rfl
           refine AL.no ?_
           refine AL.r (rd_pick_t rfl rfl rfl) ?_
           refine AL.ra ?_
           refine AL.nil ?_
           change AW _ _ _ _ _
           refine AW.ret ?_
           change ResA _ _ _ _ _
           refine res1 rfl (ResV.tmp rfl) rfl ?_
           rw [e2]; rfl
          ·skip
           exact absurd (e1.symm.trans h98) (by decide)
         ·skip
          refine AW.skip ?_
          change AW _ _ _ _ _
          refine AW.seq ?_
          refine AW.region ?_
          obtain ⟨e1, e2, e3, e4, e5⟩ := simF_good hok (b := b) (by omega) (by assumption)
          refine AL.rm ?_
          refine AL.op rfl (calloR (rbad_c 1 (getF (newR b f)).2) [1] ?_)
          rintro y os' ⟨rfl, rfl⟩
          refine AL.noR ?_
          refine AL.r (rd_un rfl rfl (fun _ => rfl)) ?_
          refine AL.rm ?_
          refine AL.fk (d := 106) rfl (fun h106 => ?_) (fun h106 => ?_)
          ·skip
           refine AL.n ?_
           refine AL.ro (rd_move rfl rfl) ?_
           refine AL.on rfl rfl rfl (calloR (rleft_c 1 (getF (newR b f)).2 (getF_ok (newR_ok (by omega) f)).ok) [1] ?_)
           rintro y os' ⟨rfl, rfl⟩
           refine AL.noR ?_
           refine AL.ro (rd_move rfl rfl) ?_
           refine AL.ro (rd_len_sl rfl el_43 rfl) ?_
           refine AL.ro (rd_move rfl rfl) ?_
           refine AL.ro (rd_arith_sub rfl rfl rfl (IntWalk.i64_in _ (by omega))) ?_
           refine AL.ro (rd_bin rfl rfl rfl (fun _ => rfl)) ?_
           refine AL.r (rd_pick_t rfl rfl rfl) ?_
           refine AL.rm ?_
           refine AL.fk (d := 115) rfl (fun h115 => ?_) (fun h115 => ?_)
           ·skip
            refine AL.n ?_
            refine AL.ro (rd_loadN_bx rfl ag_37 rfl rfl (Nat.le_of_ble_eq_true rfl) rfl) ?_
            refine AL.ro (rd_loadN_bx rfl ag_37 rfl rfl (Nat.le_of_ble_eq_true rfl) rfl) ?_
            refine AL.on rfl rfl rfl (AOpB.op (op_call (rsame_c (getF (newR b f)).1 (get13 b f 0).1 (by rw [e2]; have := raw13_len b f; omega)) rfl (by kernel_rfl) rfl (none) ?_))
            rintro r rfl
            refine AL.no ?_
            refine AL.r (rd_pick_t rfl rfl rfl) ?_
            refine AL.ra ?_
            refine AL.nil ?_
            change AW _ _ _ _ _
            refine AW.ret ?_
            change ResA _ _ _ _ _
            refine res1 rfl (ResV.tmp rfl) rfl ?_
            rw [decide_eq_true e2]
           ·skip
            exact absurd e3 h115
          ·skip
           exact absurd (e1.symm.trans h106) (by decide)
       ·skip
        exact absurd (h61.symm.trans h76) (by decide)
set_option maxHeartbeats 4000000 in
theorem fbytes_2 (h1 : f = 2) (hok : okF f = true) : AC Tryd.prog 6 [.ag [AI x.at_.scope, AS x.at_.group, AS x.at_.name, AI x.kind, AS x.dflt, .sl (csS x.cases), AI x.worth], .sc (.int .i64 f), .sl (byA b)] (fun r => r = .s (AB true)) := by
  have hbb := byA_len b
  change AC _ _ [.ag [AI x.at_.scope, AS x.at_.group, AS x.at_.name, AI x.kind, AS x.dflt, .sl (csS x.cases), AI x.worth], .sc (.int .i64 f), .sl (byA b)] _
  refine AC.of' 117 9 Tryd.func6 rfl ?_
  change AW _ _ _ _ [TK.mk 0 .off, TK.mk 0 .off, TK.mk 0 .off, TK.mk 0 .off, TK.mk 0 .off, TK.mk 0 .off, TK.mk 0 .off, TK.mk 0 .off, TK.mk 0 .off]
  refine AW.seq ?_
  refine AW.region ?_
  refine AL.op rfl (AOpB.op (op_box 4 rfl rfl rfl rfl rfl ?_))
  refine AL.no ?_
  refine AL.ra ?_
  refine AL.nil ?_
  change AW _ _ _ _ _
  refine AW.seq ?_
  refine AW.seq ?_
  refine AW.region ?_
  refine AL.op rfl (AOpB.op (op_call (awake_c) rfl (by kernel_rfl) rfl (none) ?_))
  rintro r rfl
  refine AL.no ?_
  refine AL.r (rd_un rfl rfl (fun _ => rfl)) ?_
  refine AL.nil ?_
  change AW _ _ _ _ _
  refine AW.cond_f rfl ?_
  refine AW.skip ?_
  change AW _ _ _ _ _
  refine AW.seq ?_
  refine AW.seq ?_
  refine AW.region ?_
  refine AL.r (rd_loadN_bx rfl ag_37 rfl rfl (Nat.le_of_ble_eq_true rfl) rfl) ?_
  refine AL.op rfl (AOpB.op (op_call (rheavy_c x) rfl (by kernel_rfl) rfl (none) ?_))
  rintro r rfl
  refine AL.no ?_
  refine AL.rm ?_
  refine AL.fk (d := 19) rfl (fun h19 => ?_) (fun h19 => ?_)
  ·skip
   refine AL.n ?_
   refine AL.rf ?_
   refine AL.rf ?_
   refine AL.rf ?_
   refine AL.r (rd_pick_t rfl rfl rfl) ?_
   refine AL.nil ?_
   change AW _ _ _ _ _
   refine AW.cond_t rfl ?_
   refine AW.seq ?_
   refine AW.region ?_
   refine AL.ra ?_
   refine AL.nil ?_
   change AW _ _ _ _ _
   refine AW.ret ?_
   change ResA _ _ _ _ _
   refine res1 rfl (ResV.tmp rfl) rfl ?_
   rfl
  ·skip
   refine AL.n ?_
   refine AL.ro (rd_move rfl rfl) ?_
   refine AL.ro (rd_len_sl rfl el_43 rfl) ?_
   refine AL.ro (rd_bin rfl rfl rfl (fun _ => rfl)) ?_
   refine AL.r (rd_pick_f rfl rfl rfl) ?_
   refine AL.nil ?_
   change AW _ _ _ _ _
   refine AW.cd rfl (fun h23 => ?_) (fun h23 => ?_)
   ·skip
    refine AW.seq ?_
    refine AW.region ?_
    refine AL.ra ?_
    refine AL.nil ?_
    change AW _ _ _ _ _
    refine AW.ret ?_
    change ResA _ _ _ _ _
    refine res1 rfl (ResV.tmp rfl) rfl ?_
    rfl
   ·skip
    refine AW.skip ?_
    change AW _ _ _ _ _
    refine AW.seq ?_
    refine AW.region ?_
    have hl := heavyF_light (x := x) (by assumption)
    have hpl := putF_len (f := f) hl
    have hat := putF_at hok hw hl
    refine AL.op rfl (AOpB.op (bs_set rfl ap_43 ze_5 rfl rfl ?_))
    refine AL.no ?_
    refine AL.rm ?_
    refine AL.r (rd_loadN_bx rfl ag_37 rfl rfl (Nat.le_of_ble_eq_true rfl) rfl) ?_
    refine AL.op rfl (AOpB.op (op_call (fput_9 f x hf hok hw hl) rfl (by kernel_rfl) rfl (none) ?_))
    rintro r rfl
    refine AL.no ?_
    refine AL.ra ?_
    refine AL.nil ?_
    change AW _ _ _ _ _
    refine AW.seq ?_
    refine AW.seq ?_
    refine AW.region ?_
    refine AL.rm ?_
    refine AL.r (rd_bin rfl rfl rfl (fun _ => rfl)) ?_
    refine AL.rm ?_
    refine AL.fk (d := 30) rfl (fun h30 => ?_) (fun h30 => ?_)
    ·skip
     refine AL.n ?_
     refine AL.ro (rd_move rfl rfl) ?_
     refine AL.ro (rd_bin rfl rfl rfl (fun _ => rfl)) ?_
     refine AL.r (rd_pick_t rfl rfl rfl) ?_
     refine AL.nil ?_
     change AW _ _ _ _ _
     refine AW.cd rfl (fun h33 => ?_) (fun h33 => ?_)
     ·skip
      omega
     ·skip
      refine AW.skip ?_
      change AW _ _ _ _ _
      refine AW.seq ?_
      refine AW.region ?_
      refine AL.rm ?_
      refine AL.r (rd_byr_from rfl el_43 rfl rfl (m := 1) rfl (by simp)) ?_
      refine AL.rm ?_
      refine AL.op rfl (calloR (rnew_c (putF f x) (by omega) f 0) [0] ?_)
      rintro y os' ⟨rfl, rfl⟩
      refine AL.noR ?_
      refine AL.ra ?_
      refine AL.nil ?_
      change AW _ _ _ _ _
      refine AW.seq ?_
      refine AW.region ?_
      refine AL.rm ?_
      refine AL.op rfl (calloR (fget_c 1 (newR (putF f x) f) (newR_ok (by omega) f)) [0] ?_)
      rintro y os' ⟨rfl, rfl⟩
      refine AL.noR ?_
      have hend : rightF x = true → endP (getF (newR (putF f x) f)).2 = 0 := fun h => (hat.1 h).2
      have hsame : rightF x = true → x = (getF (newR (putF f x) f)).1 := fun h => (hat.1 h).1.symm
      refine AL.op rfl (AOpB.op (op_alloc 6 rfl ze_37 rfl ?_))
      refine AL.no ?_
      refine AL.op rfl (op_store_ rfl rfl rfl rfl rfl sz_37 ?_)
      refine AL.no ?_
      refine AL.nil ?_
      change AW _ _ _ _ _
      refine AW.seq ?_
      refine AW.seq ?_
      refine AW.draw (by kernel_rfl) ?_
      refine AD.r 0 rfl (rd_move rfl rfl) rfl ?_
      refine AD.r 1 rfl (rd_byr_from rfl el_43 rfl rfl (m := 1) rfl (by simp)) rfl ?_
      refine AD.r 2 rfl (rd_b2s rfl (by kernel_rfl) (src_s rfl)) rfl ?_
      refine AD.r 3 rfl (rd_move rfl rfl) rfl ?_
      refine AD.r 4 rfl (rd_loadN_bx rfl ag_37 rfl rfl (Nat.le_of_ble_eq_true rfl) rfl) rfl ?_
      refine AD.move 5 rfl (by kernel_rfl) rfl (op_call (rput13_c f hf hok x hw hl) rfl (by kernel_rfl) rfl (none) ?_)
      rintro r rfl
      refine AD.n ?_
      refine AD.r 6 rfl (rd_b2s rfl (by kernel_rfl) (src_s rfl)) rfl ?_
      refine AD.r 7 rfl (rd_sne rfl rfl rfl) rfl ?_
      refine AD.done (by kernel_rfl) ?_
      change AW _ _ _ _ _
      refine AW.cd rfl (fun h58 => ?_) (fun h58 => ?_)
      ·skip
       exact (h58 rfl).elim
      ·skip
       refine AW.skip ?_
       change AW _ _ _ _ _
       refine AW.seq ?_
       refine AW.seq ?_
       refine AW.region ?_
       refine AL.r (rd_loadN_bx rfl ag_37 rfl rfl (Nat.le_of_ble_eq_true rfl) rfl) ?_
       refine AL.op rfl (AOpB.op (op_call (rright13 x (by have := hl.cases; omega)) rfl (by kernel_rfl) rfl (none) ?_))
       rintro r rfl
       refine AL.no ?_
       refine AL.rm ?_
       refine AL.fk (d := 61) rfl (fun h61 => ?_) (fun h61 => ?_)
       ·skip
        refine AL.n ?_
        refine AL.ro (rd_loadN_bx rfl ag_37 rfl rfl (Nat.le_of_ble_eq_true rfl) rfl) ?_
        refine AL.ro (rd_loadN_bx rfl ag_37 rfl rfl (Nat.le_of_ble_eq_true rfl) rfl) ?_
        refine AL.on rfl rfl rfl (AOpB.op (op_call (same_c x (getF (newR (putF f x) f)).1) rfl (by kernel_rfl) rfl (none) ?_))
        rintro r rfl
        refine AL.no ?_
        refine AL.ro (rd_un rfl rfl (fun _ => rfl)) ?_
        refine AL.ro (rd_move rfl rfl) ?_
        refine AL.fk (d := 66) rfl (fun h66 => ?_) (fun h66 => ?_)
        ·skip
         exact (h66 (hsame (by assumption))).elim
        ·skip
         refine AL.n ?_
         refine AL.ro (rd_move rfl rfl) ?_
         refine AL.on rfl rfl rfl (calloR (rend_c 1 (getF (newR (putF f x) f)).2 (getF_ok (newR_ok (by omega) f)).ok) [0] ?_)
         rintro y os' ⟨rfl, rfl⟩
         refine AL.noR ?_
         refine AL.ro (rd_bin rfl rfl rfl (fun _ => rfl)) ?_
         refine AL.ro (rd_pick_f rfl rfl rfl) ?_
         refine AL.r (rd_pick_t rfl rfl rfl) ?_
         refine AL.rm ?_
         refine AL.fk (d := 72) rfl (fun h72 => ?_) (fun h72 => ?_)
         ·skip
          exact absurd (hend (by assumption)) h72
         ·skip
          refine AL.n ?_
          refine AL.ro (rd_loadN_bx rfl ag_37 rfl rfl (Nat.le_of_ble_eq_true rfl) rfl) ?_
          refine AL.on rfl rfl rfl (AOpB.op (op_call (rright13 x (by have := hl.cases; omega)) rfl (by kernel_rfl) rfl (none) ?_))
          rintro r rfl
          refine AL.no ?_
          refine AL.ro (rd_un rfl rfl (fun _ => rfl)) ?_
          refine AL.ro (rd_move rfl rfl) ?_
          refine AL.fk (d := 76) rfl (fun h76 => ?_) (fun h76 => ?_)
          ·skip
           exact absurd (h61.symm.trans h76) (by decide)
          ·skip
           refine AL.n ?_
           refine AL.rf ?_
           refine AL.rf ?_
           refine AL.rf ?_
           refine AL.ro (rd_pick_f rfl rfl rfl) ?_
           refine AL.r (rd_pick_f rfl rfl rfl) ?_
           refine AL.nil ?_
           change AW _ _ _ _ _
           refine AW.cond_f rfl ?_
           refine AW.skip ?_
           change AW _ _ _ _ _
           refine AW.seq ?_
           refine AW.region ?_
           refine AL.rm ?_
           refine AL.rm ?_
           refine AL.op rfl (calloR (rnew_c b (by omega) f 0) [1] ?_)
           rintro y os' ⟨rfl, rfl⟩
           refine AL.noR ?_
           refine AL.ra ?_
           refine AL.nil ?_
           change AW _ _ _ _ _
           refine AW.seq ?_
           refine AW.region ?_
           refine AL.rm ?_
           refine AL.op rfl (calloR (fget_c 1 (newR b f) (newR_ok (by omega) f)) [1] ?_)
           rintro y os' ⟨rfl, rfl⟩
           refine AL.noR ?_
           refine AL.op rfl (AOpB.op (op_alloc 7 rfl ze_37 rfl ?_))
           refine AL.no ?_
           refine AL.op rfl (op_store_ rfl rfl rfl rfl rfl sz_37 ?_)
           refine AL.no ?_
           refine AL.nil ?_
           change AW _ _ _ _ _
           refine AW.seq ?_
           refine AW.region ?_
           refine AL.rm ?_
           refine AL.rm ?_
           refine AL.op rfl (AOpB.op (op_call (rget13_c b f 0 (by omega) (by omega)) rfl (by kernel_rfl) rfl (none) ?_))
           rintro r rfl
           refine AL.no ?_
           refine AL.rm ?_
           refine AL.r (rd_extract rfl rfl rfl) ?_
           refine AL.r (rd_extract rfl rfl rfl) ?_
           refine AL.r (rd_extract rfl rfl rfl) ?_
           refine AL.op rfl (AOpB.op (op_alloc 8 rfl ze_37 rfl ?_))
           refine AL.no ?_
           refine AL.op rfl (op_store_ rfl rfl rfl rfl rfl sz_37 ?_)
           refine AL.no ?_
           refine AL.ra ?_
           refine AL.ra ?_
           refine AL.nil ?_
           change AW _ _ _ _ _
           refine AW.seq ?_
           refine AW.seq ?_
           refine AW.region ?_
           refine AL.rm ?_
           refine AL.r (rd_un rfl rfl (fun _ => rfl)) ?_
           refine AL.nil ?_
           change AW _ _ _ _ _
           refine AW.cd rfl (fun h95 => ?_) (fun h95 => ?_)
           ·skip
            refine AW.seq ?_
            refine AW.region ?_
            obtain ⟨e1, e2⟩ := simF_bad hok (b := b) (by assumption)
            refine AL.rm ?_
            refine AL.op rfl (calloR (rbad_c 1 (getF (newR b f)).2) [1] ?_)
            rintro y os' ⟨rfl, rfl⟩
            refine AL.noR ?_
            refine AL.rm ?_
            refine AL.fk (d := 98) rfl (fun h98 => ?_) (fun h98 => ?_)
            ·skip
             refine AL.n ?_
             refine AL.ro (rd_loadN_bx rfl ag_37 rfl rfl (Nat.le_of_ble_eq_true rfl) rfl) ?_
             refine AL.ro (rd_build rfl pl_37 ze_37 rfl rfl) ?_
             refine AL.on rfl rfl rfl (AOpB.op (op_call (same_c (getF (newR b f)).1 zeroF) rfl (by kernel_rfl) rfl (none) ?_))
             rintro r rfl
             refine AL.no ?_
             refine AL.r (rd_pick_t rfl rfl rfl) ?_
             refine AL.ra ?_
             refine AL.nil ?_
             change AW _ _ _ _ _
             refine AW.ret ?_
             change ResA _ _ _ _ _
             refine res1 rfl (ResV.tmp rfl) rfl ?_
             rw [e2]; rfl
            ·skip
             exact absurd (e1.symm.trans h98) (by decide)
           ·skip
            refine AW.skip ?_
            change AW _ _ _ _ _
            refine AW.seq ?_
            refine AW.region ?_
            obtain ⟨e1, e2, e3, e4, e5⟩ := simF_good hok (b := b) (by omega) (by assumption)
            refine AL.rm ?_
            refine AL.op rfl (calloR (rbad_c 1 (getF (newR b f)).2) [1] ?_)
            rintro y os' ⟨rfl, rfl⟩
            refine AL.noR ?_
            refine AL.r (rd_un rfl rfl (fun _ => rfl)) ?_
            refine AL.rm ?_
            refine AL.fk (d := 106) rfl (fun h106 => ?_) (fun h106 => ?_)
            ·skip
             refine AL.n ?_
             refine AL.ro (rd_move rfl rfl) ?_
             refine AL.on rfl rfl rfl (calloR (rleft_c 1 (getF (newR b f)).2 (getF_ok (newR_ok (by omega) f)).ok) [1] ?_)
             rintro y os' ⟨rfl, rfl⟩
             refine AL.noR ?_
             refine AL.ro (rd_move rfl rfl) ?_
             refine AL.ro (rd_len_sl rfl el_43 rfl) ?_
             refine AL.ro (rd_move rfl rfl) ?_
             refine AL.ro (rd_arith_sub rfl rfl rfl (IntWalk.i64_in _ (by omega))) ?_
             refine AL.ro (rd_bin rfl rfl rfl (fun _ => rfl)) ?_
             refine AL.r (rd_pick_t rfl rfl rfl) ?_
             refine AL.rm ?_
             refine AL.fk (d := 115) rfl (fun h115 => ?_) (fun h115 => ?_)
             ·skip
              refine AL.n ?_
              refine AL.ro (rd_loadN_bx rfl ag_37 rfl rfl (Nat.le_of_ble_eq_true rfl) rfl) ?_
              refine AL.ro (rd_loadN_bx rfl ag_37 rfl rfl (Nat.le_of_ble_eq_true rfl) rfl) ?_
              refine AL.on rfl rfl rfl (AOpB.op (op_call (rsame_c (getF (newR b f)).1 (get13 b f 0).1 (by rw [e2]; have := raw13_len b f; omega)) rfl (by kernel_rfl) rfl (none) ?_))
              rintro r rfl
              refine AL.no ?_
              refine AL.r (rd_pick_t rfl rfl rfl) ?_
              refine AL.ra ?_
              refine AL.nil ?_
              change AW _ _ _ _ _
              refine AW.ret ?_
              change ResA _ _ _ _ _
              refine res1 rfl (ResV.tmp rfl) rfl ?_
              rw [decide_eq_true e2]
             ·skip
              exact absurd e3 h115
            ·skip
             exact absurd (e1.symm.trans h106) (by decide)
       ·skip
        refine AL.n ?_
        refine AL.rf ?_
        refine AL.rf ?_
        refine AL.rf ?_
        refine AL.rf ?_
        refine AL.rf ?_
        refine AL.ru ?_
        refine AL.ru ?_
        refine AL.ru ?_
        refine AL.rf ?_
        refine AL.r (rd_pick_f rfl rfl rfl) ?_
        refine AL.rm ?_
        refine AL.ro (rd_loadN_bx rfl ag_37 rfl rfl (Nat.le_of_ble_eq_true rfl) rfl) ?_
        refine AL.on rfl rfl rfl (AOpB.op (op_call (rright13 x (by have := hl.cases; omega)) rfl (by kernel_rfl) rfl (none) ?_))
        rintro r rfl
        refine AL.no ?_
        refine AL.ro (rd_un rfl rfl (fun _ => rfl)) ?_
        refine AL.ro (rd_move rfl rfl) ?_
        refine AL.fk (d := 76) rfl (fun h76 => ?_) (fun h76 => ?_)
        ·skip
         refine AL.n ?_
         refine AL.ro (rd_move rfl rfl) ?_
         refine AL.on rfl rfl rfl (calloR (rbad_c 1 (getF (newR (putF f x) f)).2) [0] ?_)
         rintro y os' ⟨rfl, rfl⟩
         refine AL.noR ?_
         refine AL.ro (rd_un rfl rfl (fun _ => rfl)) ?_
         refine AL.ro (rd_pick_t rfl rfl rfl) ?_
         refine AL.r (rd_pick_f rfl rfl rfl) ?_
         refine AL.nil ?_
         change AW _ _ _ _ _
         refine AW.cd rfl (fun h81 => ?_) (fun h81 => ?_)
         ·skip
          exact absurd ((hat.2 (by assumption)).symm.trans h81) (by decide)
         ·skip
          refine AW.skip ?_
          change AW _ _ _ _ _
          refine AW.seq ?_
          refine AW.region ?_
          refine AL.rm ?_
          refine AL.rm ?_
          refine AL.op rfl (calloR (rnew_c b (by omega) f 0) [1] ?_)
          rintro y os' ⟨rfl, rfl⟩
          refine AL.noR ?_
          refine AL.ra ?_
          refine AL.nil ?_
          change AW _ _ _ _ _
          refine AW.seq ?_
          refine AW.region ?_
          refine AL.rm ?_
          refine AL.op rfl (calloR (fget_c 1 (newR b f) (newR_ok (by omega) f)) [1] ?_)
          rintro y os' ⟨rfl, rfl⟩
          refine AL.noR ?_
          refine AL.op rfl (AOpB.op (op_alloc 7 rfl ze_37 rfl ?_))
          refine AL.no ?_
          refine AL.op rfl (op_store_ rfl rfl rfl rfl rfl sz_37 ?_)
          refine AL.no ?_
          refine AL.nil ?_
          change AW _ _ _ _ _
          refine AW.seq ?_
          refine AW.region ?_
          refine AL.rm ?_
          refine AL.rm ?_
          refine AL.op rfl (AOpB.op (op_call (rget13_c b f 0 (by omega) (by omega)) rfl (by kernel_rfl) rfl (none) ?_))
          rintro r rfl
          refine AL.no ?_
          refine AL.rm ?_
          refine AL.r (rd_extract rfl rfl rfl) ?_
          refine AL.r (rd_extract rfl rfl rfl) ?_
          refine AL.r (rd_extract rfl rfl rfl) ?_
          refine AL.op rfl (AOpB.op (op_alloc 8 rfl ze_37 rfl ?_))
          refine AL.no ?_
          refine AL.op rfl (op_store_ rfl rfl rfl rfl rfl sz_37 ?_)
          refine AL.no ?_
          refine AL.ra ?_
          refine AL.ra ?_
          refine AL.nil ?_
          change AW _ _ _ _ _
          refine AW.seq ?_
          refine AW.seq ?_
          refine AW.region ?_
          refine AL.rm ?_
          refine AL.r (rd_un rfl rfl (fun _ => rfl)) ?_
          refine AL.nil ?_
          change AW _ _ _ _ _
          refine AW.cd rfl (fun h95 => ?_) (fun h95 => ?_)
          ·skip
           refine AW.seq ?_
           refine AW.region ?_
           obtain ⟨e1, e2⟩ := simF_bad hok (b := b) (by assumption)
           refine AL.rm ?_
           refine AL.op rfl (calloR (rbad_c 1 (getF (newR b f)).2) [1] ?_)
           rintro y os' ⟨rfl, rfl⟩
           refine AL.noR ?_
           refine AL.rm ?_
           refine AL.fk (d := 98) rfl (fun h98 => ?_) (fun h98 => ?_)
           ·skip
            refine AL.n ?_
            refine AL.ro (rd_loadN_bx rfl ag_37 rfl rfl (Nat.le_of_ble_eq_true rfl) rfl) ?_
            refine AL.ro (rd_build rfl pl_37 ze_37 rfl rfl) ?_
            refine AL.on rfl rfl rfl (AOpB.op (op_call (same_c (getF (newR b f)).1 zeroF) rfl (by kernel_rfl) rfl (none) ?_))
            rintro r rfl
            refine AL.no ?_
            refine AL.r (rd_pick_t rfl rfl rfl) ?_
            refine AL.ra ?_
            refine AL.nil ?_
            change AW _ _ _ _ _
            refine AW.ret ?_
            change ResA _ _ _ _ _
            refine res1 rfl (ResV.tmp rfl) rfl ?_
            rw [e2]; rfl
           ·skip
            exact absurd (e1.symm.trans h98) (by decide)
          ·skip
           refine AW.skip ?_
           change AW _ _ _ _ _
           refine AW.seq ?_
           refine AW.region ?_
           obtain ⟨e1, e2, e3, e4, e5⟩ := simF_good hok (b := b) (by omega) (by assumption)
           refine AL.rm ?_
           refine AL.op rfl (calloR (rbad_c 1 (getF (newR b f)).2) [1] ?_)
           rintro y os' ⟨rfl, rfl⟩
           refine AL.noR ?_
           refine AL.r (rd_un rfl rfl (fun _ => rfl)) ?_
           refine AL.rm ?_
           refine AL.fk (d := 106) rfl (fun h106 => ?_) (fun h106 => ?_)
           ·skip
            refine AL.n ?_
            refine AL.ro (rd_move rfl rfl) ?_
            refine AL.on rfl rfl rfl (calloR (rleft_c 1 (getF (newR b f)).2 (getF_ok (newR_ok (by omega) f)).ok) [1] ?_)
            rintro y os' ⟨rfl, rfl⟩
            refine AL.noR ?_
            refine AL.ro (rd_move rfl rfl) ?_
            refine AL.ro (rd_len_sl rfl el_43 rfl) ?_
            refine AL.ro (rd_move rfl rfl) ?_
            refine AL.ro (rd_arith_sub rfl rfl rfl (IntWalk.i64_in _ (by omega))) ?_
            refine AL.ro (rd_bin rfl rfl rfl (fun _ => rfl)) ?_
            refine AL.r (rd_pick_t rfl rfl rfl) ?_
            refine AL.rm ?_
            refine AL.fk (d := 115) rfl (fun h115 => ?_) (fun h115 => ?_)
            ·skip
             refine AL.n ?_
             refine AL.ro (rd_loadN_bx rfl ag_37 rfl rfl (Nat.le_of_ble_eq_true rfl) rfl) ?_
             refine AL.ro (rd_loadN_bx rfl ag_37 rfl rfl (Nat.le_of_ble_eq_true rfl) rfl) ?_
             refine AL.on rfl rfl rfl (AOpB.op (op_call (rsame_c (getF (newR b f)).1 (get13 b f 0).1 (by rw [e2]; have := raw13_len b f; omega)) rfl (by kernel_rfl) rfl (none) ?_))
             rintro r rfl
             refine AL.no ?_
             refine AL.r (rd_pick_t rfl rfl rfl) ?_
             refine AL.ra ?_
             refine AL.nil ?_
             change AW _ _ _ _ _
             refine AW.ret ?_
             change ResA _ _ _ _ _
             refine res1 rfl (ResV.tmp rfl) rfl ?_
             rw [decide_eq_true e2]
            ·skip
             exact absurd e3 h115
           ·skip
            exact absurd (e1.symm.trans h106) (by decide)
        ·skip
         exact absurd (h61.symm.trans h76) (by decide)
    ·skip
     omega
theorem fbytes_c : AC Tryd.prog 6 [x.av, .sc (.int .i64 f), .sl (byA b)] (fun r => r = .s (AB true)) := by
  cases hok : okF f with
  | true =>
    rcases okF_iff.1 hok with h | h
    · exact fbytes_1 x f b hw hf h hok
    · exact fbytes_2 x f b hw hf h hok
  | false => exact fbytes_0 x f b hw hf (fun h => by rw [h] at hok; cases hok) (fun h => by rw [h] at hok; cases hok) hok
end
theorem walk_FieldBytes (w : World) (v0 : Value) (f0 : FldD) (ok0 : okFld f0) (rp0 : RepS AnyB w v0 f0.av) (a1 : Int) (w1 : (Lit.int .i64 a1).wf = true) (v2 : Value) (b2 : List UInt8) (hb2 : b2.length ≤ maxLen) (rp2 : RepS AnyB w v2 (.sl (byA b2))) :
    Calls Tryd.prog 6 #[v0, .int .i64 a1, v2] w fun e w' => e = .returned (.bool true) ∧ Below w.heap.size w w' :=
  (fbytes_c f0 a1 b2 ok0.wf (by have := bounds_i64 w1; unfold i64R; omega)).law (vs := [v0, .int .i64 a1, v2]) rfl (rep_cons rp0 (rep_cons (.sc _) (rep_cons rp2 rep_nil)))
end Go.Proofs.YtpkjlmaphhileaaDoor
