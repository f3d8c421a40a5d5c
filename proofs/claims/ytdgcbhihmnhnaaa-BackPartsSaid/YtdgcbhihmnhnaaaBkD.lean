/- What arrives over a lens, walked over abstract states. Conditions: a right schema, a right lens, small. -/
import Derived.Test.YtdgcbhihmnhnaaaBkC
namespace Go.Proofs.Ytdgcbhihmnhnaaa
set_option linter.unusedSimpArgs false
set_option linter.unusedVariables false
set_option maxRecDepth 100000
set_option maxRecDepth 100000
open Go.RowKit

theorem find_worth {l : List FldD} (h : rightS l = true) (r : RefD) : 0 ≤ (findS l r).1.worth ∧ (findS l r).1.worth ≤ 1048576 := by
  by_cases q : (findS l r).2 = 0
  · obtain ⟨a, _⟩ := find_mem q
    have := ((rightS_iff l).1 h).2.1 _ a
    generalize (findS l r).1 = f at this
    unfold rightF at this
    grind
  · unfold findS at *
    cases hf : l.find? (fun f => decide (f.at_ = r)) with
    | none => exact ⟨by decide, by decide⟩
    | some f => rw [hf] at q; exact absurd rfl q
theorem fac_bd {x : LensD} (h : rightL x = true) (hk : x.kind = 6 ∨ x.kind = 9) : 2 ≤ x.factor ∧ x.factor ≤ 1000 := by
  unfold rightL at h
  simp only [Bool.and_eq_true] at h
  have := h.2
  unfold kindL at this
  grind
theorem mul_bd {a b : Int} (h1 : 0 ≤ a) (h2 : a ≤ 1048576) (h3 : 2 ≤ b) (h4 : b ≤ 1000) : -9223372036854775808 ≤ a * b ∧ a * b ≤ 9223372036854775807 := by
  have := Int.mul_nonneg h1 (show 0 ≤ b by omega)
  have := Int.mul_le_mul h2 h4 (by omega) (by omega)
  omega
theorem sfind_x (l : List FldD) (r : RefD) (hl : smallS l) : AC Try.prog 44 [.sl (l.map FldD.cs), r.av] (fun x => ∃ f n, f = (findS l r).1 ∧ n = (findS l r).2 ∧ x = .s (.tu [.ag [AI (f).at_.scope, AS (f).at_.group, AS (f).at_.name, AI (f).kind, AS (f).dflt, .sl (csS (f).cases), AI (f).worth], AI n])) :=
  (sfind_c l r hl).mono fun x h => ⟨_, _, rfl, rfl, h⟩
section
variable (l : List FldD) (x : LensD) (hs : smallS l) (hx : x.Small) (hl : rightS l = true) (hr : rightL x = true)
include hs hx hl hr
omit hx in
set_option maxHeartbeats 1000000 in
theorem merged_c (hk : x.kind = 9) : AC Try.prog 107 [.sl (l.map FldD.cs), x.av] (fun r => r = .s (.tu [.sl ((mergL l x).1.map FldD.cs), AB (mergL l x).2])) := by
  have hg : AC Try.prog 60 [x.av] (fun r => r = .s (.sl [[AI x.at_.scope, AS x.at_.group, AS x.name], [AI x.at_.scope, AS x.at_.group, AS x.other]])) := (goes_c x).mono fun r h => by
    rw [h, show goesL x = [besR x.at_ x.name, besR x.at_ x.other] by simp [goesL, hr, hk]]; rfl
  have hb := fac_bd hr (.inr hk)
  have hw := find_worth hl (besR x.at_ x.name)
  change AC _ _ [.sl (l.map FldD.cs), .ag [AI x.kind, AI x.at_.scope, AS x.at_.group, AS x.at_.name, AS x.name, AS x.other, AI x.factor, AI x.field.at_.scope, AS x.field.at_.group, AS x.field.at_.name, AI x.field.kind, AS x.field.dflt, .sl (csS x.field.cases), AI x.field.worth, .sl (x.forth.map PairD.cs), .sl (x.back.map PairD.cs)]] _
  refine AC.of' 56 4 Try.func107 rfl ?_
  change AW _ _ _ _ [TK.mk 0 .off, TK.mk 0 .off, TK.mk 0 .off, TK.mk 0 .off]
  refine AW.seq ?_
  refine AW.region ?_
  refine AL.op rfl (AOpB.op (op_box 0 rfl rfl rfl rfl rfl ?_))
  refine AL.n ?_
  refine AL.ra ?_
  refine AL.ra ?_
  refine AL.nil ?_
  change AW _ _ _ _ _
  refine AW.seq ?_
  refine AW.region ?_
  refine AL.r (rd_loadN_bx rfl ag_50 rfl rfl (Nat.le_of_ble_eq_true rfl) rfl) ?_
  refine AL.op rfl (AOpB.op (op_call (hg) rfl (by kernel_rfl) rfl (none) ?_))
  rintro r rfl
  refine AL.n ?_
  refine AL.ra ?_
  refine AL.nil ?_
  change AW _ _ _ _ _
  refine AW.seq ?_
  refine AW.region ?_
  refine AL.rm ?_
  refine AL.rm ?_
  refine AL.r (rd_iaddr_sl rfl el_112 rfl rfl (n := 0) rfl rfl rfl) ?_
  refine AL.r (rd_loadN_ep rfl ag_44 rfl (Nat.le_of_ble_eq_true rfl) rfl) ?_
  refine AL.op rfl (AOpB.op (op_call (sfind_x l (besR x.at_ x.name) hs) rfl (by kernel_rfl) rfl (none) ?_))
  rintro r ⟨u, m, hu, hm, rfl⟩
  refine AL.n ?_
  refine AL.rm ?_
  refine AL.r (rd_extract rfl rfl rfl) ?_
  refine AL.r (rd_extract rfl rfl rfl) ?_
  refine AL.op rfl (AOpB.op (op_alloc 1 rfl ze_47 rfl ?_))
  refine AL.n ?_
  refine AL.op rfl (op_store_ rfl rfl rfl rfl rfl sz_47 ?_)
  refine AL.b ?_
  refine AL.ra ?_
  refine AL.nil ?_
  change AW _ _ _ _ _
  refine AW.seq ?_
  refine AW.seq ?_
  refine AW.region ?_
  refine AL.rm ?_
  refine AL.r (rd_bin rfl rfl rfl (fun _ => rfl)) ?_
  refine AL.rm ?_
  refine AL.fk (d := 22) rfl (fun h22 => ?_) (fun h22 => ?_)
  ·skip
   refine AL.n ?_
   refine AL.rf ?_
   refine AL.rf ?_
   refine AL.rf ?_
   refine AL.r (rd_pick_t rfl rfl rfl) ?_
   refine AL.nil ?_
   change AW _ _ _ _ _
   refine AW.cond_t rfl ?_
   refine AW.seq ?_
   refine AW.region ?_
   refine AL.ra ?_
   refine AL.ra ?_
   refine AL.nil ?_
   change AW _ _ _ _ _
   refine AW.ret ?_
   change ResA _ _ _ _ _
   refine res2 rfl (ResV.tmp rfl) rfl (ResV.tmp rfl) rfl ?_
   (have e : mergL l x = ([], false) := (by unfold mergL; rw [if_pos (by simp_all)])); rw [e]; rfl
  ·skip
   refine AL.n ?_
   refine AL.ro (rd_faddr_bx rfl fo_47_1 rfl rfl ⟨_, _, rfl⟩) ?_
   refine AL.ro (rd_load_bx rfl ag_3 rfl rfl rfl) ?_
   refine AL.ro (rd_bin rfl rfl rfl (fun _ => rfl)) ?_
   refine AL.r (rd_pick_f rfl rfl rfl) ?_
   refine AL.nil ?_
   change AW _ _ _ _ _
   refine AW.cd rfl (fun h26 => ?_) (fun h26 => ?_)
   ·skip
    refine AW.seq ?_
    refine AW.region ?_
    refine AL.ra ?_
    refine AL.ra ?_
    refine AL.nil ?_
    change AW _ _ _ _ _
    refine AW.ret ?_
    change ResA _ _ _ _ _
    refine res2 rfl (ResV.tmp rfl) rfl (ResV.tmp rfl) rfl ?_
    (have e : mergL l x = ([], false) := (by unfold mergL; rw [if_pos (by simp_all)])); rw [e]; rfl
   ·skip
    refine AW.skip ?_
    change AW _ _ _ _ _
    refine AW.seq ?_
    refine AW.region ?_
    refine AL.rm ?_
    refine AL.rm ?_
    refine AL.r (rd_iaddr_sl rfl el_112 rfl rfl (n := 1) rfl rfl rfl) ?_
    refine AL.r (rd_loadN_ep rfl ag_44 rfl (Nat.le_of_ble_eq_true rfl) rfl) ?_
    refine AL.op rfl (AOpB.op (op_call (sfind_x l (besR x.at_ x.other) hs) rfl (by kernel_rfl) rfl (none) ?_))
    rintro r ⟨p, q, hp, hq, rfl⟩
    refine AL.n ?_
    refine AL.rm ?_
    refine AL.r (rd_extract rfl rfl rfl) ?_
    refine AL.r (rd_extract rfl rfl rfl) ?_
    refine AL.op rfl (AOpB.op (op_alloc 2 rfl ze_47 rfl ?_))
    refine AL.n ?_
    refine AL.op rfl (op_store_ rfl rfl rfl rfl rfl sz_47 ?_)
    refine AL.b ?_
    refine AL.ra ?_
    refine AL.nil ?_
    change AW _ _ _ _ _
    refine AW.seq ?_
    refine AW.seq ?_
    refine AW.region ?_
    refine AL.rm ?_
    refine AL.r (rd_bin rfl rfl rfl (fun _ => rfl)) ?_
    refine AL.rm ?_
    refine AL.fk (d := 37) rfl (fun h37 => ?_) (fun h37 => ?_)
    ·skip
     refine AL.n ?_
     refine AL.rf ?_
     refine AL.rf ?_
     refine AL.rf ?_
     refine AL.r (rd_pick_t rfl rfl rfl) ?_
     refine AL.rm ?_
     refine AL.rf ?_
     refine AL.rf ?_
     refine AL.rf ?_
     refine AL.rf ?_
     refine AL.rf ?_
     refine AL.rf ?_
     refine AL.rf ?_
     refine AL.rf ?_
     refine AL.r (rd_pick_t rfl rfl rfl) ?_
     refine AL.nil ?_
     change AW _ _ _ _ _
     refine AW.cond_t rfl ?_
     refine AW.seq ?_
     refine AW.region ?_
     refine AL.ra ?_
     refine AL.ra ?_
     refine AL.nil ?_
     change AW _ _ _ _ _
     refine AW.ret ?_
     change ResA _ _ _ _ _
     refine res2 rfl (ResV.tmp rfl) rfl (ResV.tmp rfl) rfl ?_
     (have e : mergL l x = ([], false) := (by unfold mergL; rw [if_neg (by simp_all), if_pos (by simp_all)])); rw [e]; rfl
    ·skip
     refine AL.n ?_
     refine AL.ro (rd_faddr_bx rfl fo_47_1 rfl rfl ⟨_, _, rfl⟩) ?_
     refine AL.ro (rd_load_bx rfl ag_3 rfl rfl rfl) ?_
     refine AL.ro (rd_bin rfl rfl rfl (fun _ => rfl)) ?_
     refine AL.r (rd_pick_f rfl rfl rfl) ?_
     refine AL.rm ?_
     refine AL.fk (d := 42) rfl (fun h42 => ?_) (fun h42 => ?_)
     ·skip
      refine AL.n ?_
      refine AL.rf ?_
      refine AL.rf ?_
      refine AL.rf ?_
      refine AL.rf ?_
      refine AL.rf ?_
      refine AL.rf ?_
      refine AL.rf ?_
      refine AL.rf ?_
      refine AL.r (rd_pick_t rfl rfl rfl) ?_
      refine AL.nil ?_
      change AW _ _ _ _ _
      refine AW.cond_t rfl ?_
      refine AW.seq ?_
      refine AW.region ?_
      refine AL.ra ?_
      refine AL.ra ?_
      refine AL.nil ?_
      change AW _ _ _ _ _
      refine AW.ret ?_
      change ResA _ _ _ _ _
      refine res2 rfl (ResV.tmp rfl) rfl (ResV.tmp rfl) rfl ?_
      (have e : mergL l x = ([], false) := (by unfold mergL; rw [if_neg (by simp_all), if_pos (by simp_all)])); rw [e]; rfl
     ·skip
      refine AL.n ?_
      refine AL.ro (rd_faddr_bx rfl fo_47_4 rfl rfl ⟨_, _, rfl⟩) ?_
      refine AL.ro (rd_load_bx rfl ag_2 rfl rfl rfl) ?_
      refine AL.ro (rd_faddr_bx rfl fo_47_4 rfl rfl ⟨_, _, rfl⟩) ?_
      refine AL.ro (rd_load_bx rfl ag_2 rfl rfl rfl) ?_
      refine AL.ro (rd_faddr_bx rfl fo_50_4 rfl rfl ⟨_, _, rfl⟩) ?_
      refine AL.ro (rd_load_bx rfl ag_2 rfl rfl rfl) ?_
      refine AL.ro (rd_arith_mul rfl rfl rfl (IntWalk.i64_in _ (by rw [hu]; exact mul_bd hw.1 hw.2 hb.1 hb.2))) ?_
      refine AL.ro (rd_bin rfl rfl rfl (fun _ => rfl)) ?_
      refine AL.r (rd_pick_f rfl rfl rfl) ?_
      refine AL.nil ?_
      change AW _ _ _ _ _
      refine AW.cd rfl (fun h51 => ?_) (fun h51 => ?_)
      ·skip
       refine AW.seq ?_
       refine AW.region ?_
       refine AL.ra ?_
       refine AL.ra ?_
       refine AL.nil ?_
       change AW _ _ _ _ _
       refine AW.ret ?_
       change ResA _ _ _ _ _
       refine res2 rfl (ResV.tmp rfl) rfl (ResV.tmp rfl) rfl ?_
       (have e : mergL l x = ([], false) := (by unfold mergL; rw [if_neg (by simp_all), if_pos (by simp_all)])); rw [e]; rfl
      ·skip
       refine AW.skip ?_
       change AW _ _ _ _ _
       refine AW.seq ?_
       refine AW.region ?_
       refine AL.r (rd_faddr_bx rfl fo_50_1 rfl rfl ⟨_, _, rfl⟩) ?_
       refine AL.r (rd_loadN_bx rfl ag_44 rfl rfl (Nat.le_of_ble_eq_true rfl) rfl) ?_
       refine AL.r (rd_faddr_bx rfl fo_47_4 rfl rfl ⟨_, _, rfl⟩) ?_
       refine AL.r (rd_load_bx rfl ag_2 rfl rfl rfl) ?_
       refine AL.r (rd_build rfl pl_47 ze_47 rfl rfl) ?_
       refine AL.op rfl (AOpB.op (bs_set rfl ap_42 ze_47 rfl rfl ?_))
       refine AL.n ?_
       refine AL.ra ?_
       refine AL.ra ?_
       refine AL.nil ?_
       change AW _ _ _ _ _
       refine AW.ret ?_
       change ResA _ _ _ _ _
       refine res2 rfl (ResV.tmp rfl) rfl (ResV.tmp rfl) rfl ?_
       (have e : mergL l x = ([cntF x.at_ u.worth], true) := (by unfold mergL; rw [if_neg (by simp_all), if_neg (by simp_all), ← hu])); rw [e]; rfl
set_option maxHeartbeats 1000000 in
theorem arr_a (hk : x.kind = 2 ∨ x.kind = 3 ∨ x.kind = 9) : AC Try.prog 59 [.sl (l.map FldD.cs), x.av] (fun r => r = .s (.tu [.sl ((arrL l x).1.map FldD.cs), AB (arrL l x).2])) := by
  have h1 := hx.cases
  change AC _ _ [.sl (l.map FldD.cs), .ag [AI x.kind, AI x.at_.scope, AS x.at_.group, AS x.at_.name, AS x.name, AS x.other, AI x.factor, AI x.field.at_.scope, AS x.field.at_.group, AS x.field.at_.name, AI x.field.kind, AS x.field.dflt, .sl (csS x.field.cases), AI x.field.worth, .sl (x.forth.map PairD.cs), .sl (x.back.map PairD.cs)]] _
  refine AC.of' 138 13 Try.func59 rfl ?_
  change AW _ _ _ _ [TK.mk 0 .off, TK.mk 0 .off, TK.mk 0 .off, TK.mk 0 .off, TK.mk 0 .off, TK.mk 0 .off, TK.mk 0 .off, TK.mk 0 .off, TK.mk 0 .off, TK.mk 0 .off, TK.mk 0 .off, TK.mk 0 .off, TK.mk 0 .off]
  refine AW.seq ?_
  refine AW.region ?_
  refine AL.op rfl (AOpB.op (op_box 0 rfl rfl rfl rfl rfl ?_))
  refine AL.n ?_
  refine AL.ra ?_
  refine AL.ra ?_
  refine AL.nil ?_
  change AW _ _ _ _ _
  refine AW.seq ?_
  refine AW.seq ?_
  refine AW.freebox 3 rfl rfl (Nat.zero_lt_succ _) rfl ?_
  refine AW.norm (by simp only [anys, upds, offs, List.set_cons_zero, List.set_cons_succ]; rfl) (by (try simp only [anys, upds, offs, List.set_cons_zero, List.set_cons_succ]); (try rfl)) ?_
  refine AW.region ?_
  refine AL.r (rd_faddr_ep rfl fo_50_0 rfl) ?_
  refine AL.r (rd_load_ep rfl ag_3 rfl rfl) ?_
  refine AL.nil ?_
  change AW _ _ _ _ _
  refine AW.block ?_
  refine AW.seq ?_
  refine AW.region ?_
  refine AL.r (rd_bin rfl rfl rfl (fun _ => rfl)) ?_
  refine AL.ra ?_
  refine AL.nil ?_
  change AW _ _ _ _ _
  refine AW.cd rfl (fun h17 => ?_) (fun h17 => ?_)
  ·skip
   refine AW.seq ?_
   refine AW.region ?_
   refine AL.r (rd_faddr_ep rfl fo_50_5 rfl) ?_
   refine AL.r (rd_loadN_ep rfl ag_47 rfl (Nat.le_of_ble_eq_true rfl) rfl) ?_
   refine AL.op rfl (AOpB.op (op_call (own_c x.field (by omega)) rfl (by kernel_rfl) rfl (none) ?_))
   rintro r rfl
   refine AL.n ?_
   refine AL.op rfl (AOpB.op (bs_set rfl ap_42 ze_47 rfl rfl ?_))
   refine AL.n ?_
   refine AL.ra ?_
   refine AL.ra ?_
   refine AL.nil ?_
   change AW _ _ _ _ _
   refine AW.ret ?_
   change ResA _ _ _ _ _
   refine res2 rfl (ResV.tmp rfl) rfl (ResV.tmp rfl) rfl ?_
   rw [arrL, if_pos (by assumption)]; rfl
  ·skip
   refine AW.seq ?_
   refine AW.region ?_
   refine AL.r (rd_bin rfl rfl rfl (fun _ => rfl)) ?_
   refine AL.ra ?_
   refine AL.nil ?_
   change AW _ _ _ _ _
   refine AW.cd rfl (fun h23 => ?_) (fun h23 => ?_)
   ·skip
    refine AW.seq ?_
    refine AW.region ?_
    refine AL.rm ?_
    refine AL.r (rd_faddr_ep rfl fo_50_5 rfl) ?_
    refine AL.r (rd_faddr_ep rfl fo_47_0 rfl) ?_
    refine AL.r (rd_loadN_ep rfl ag_44 rfl (Nat.le_of_ble_eq_true rfl) rfl) ?_
    refine AL.op rfl (AOpB.op (op_call (sfind_x l x.field.at_ hs) rfl (by kernel_rfl) rfl (none) ?_))
    rintro r ⟨f, n, hf, hn, rfl⟩
    refine AL.n ?_
    refine AL.rm ?_
    refine AL.r (rd_extract rfl rfl rfl) ?_
    refine AL.r (rd_extract rfl rfl rfl) ?_
    refine AL.op rfl (AOpB.op (op_alloc 2 rfl ze_47 rfl ?_))
    refine AL.n ?_
    refine AL.op rfl (op_store_ rfl rfl rfl rfl rfl sz_47 ?_)
    refine AL.b ?_
    refine AL.ra ?_
    refine AL.nil ?_
    change AW _ _ _ _ _
    refine AW.seq ?_
    refine AW.region ?_
    refine AL.rm ?_
    refine AL.r (rd_bin rfl rfl rfl (fun _ => rfl)) ?_
    refine AL.rm ?_
    refine AL.fk (d := 35) rfl (fun h35 => ?_) (fun h35 => ?_)
    ·skip
     refine AL.n ?_
     refine AL.ro (rd_loadN_bx rfl ag_47 rfl rfl (Nat.le_of_ble_eq_true rfl) rfl) ?_
     refine AL.ro (rd_faddr_ep rfl fo_50_5 rfl) ?_
     refine AL.ro (rd_loadN_ep rfl ag_47 rfl (Nat.le_of_ble_eq_true rfl) rfl) ?_
     refine AL.on rfl rfl rfl (AOpB.op (op_call (same_c f x.field) rfl (by kernel_rfl) rfl (none) ?_))
     rintro r rfl
     refine AL.n ?_
     refine AL.r (rd_pick_t rfl rfl rfl) ?_
     refine AL.ra ?_
     refine AL.ra ?_
     refine AL.nil ?_
     change AW _ _ _ _ _
     refine AW.ret ?_
     change ResA _ _ _ _ _
     refine res2 rfl (ResV.tmp rfl) rfl (ResV.tmp rfl) rfl ?_
     (have e : arrL l x = ([], decide (n = 0) && decide (f = x.field)) := (by unfold arrL; rw [if_neg (by omega), if_pos (by assumption), hf, hn])); rw [e]; simp_all
    ·skip
     refine AL.n ?_
     refine AL.rf ?_
     refine AL.rf ?_
     refine AL.rf ?_
     refine AL.rf ?_
     refine AL.r (rd_pick_f rfl rfl rfl) ?_
     refine AL.ra ?_
     refine AL.ra ?_
     refine AL.nil ?_
     change AW _ _ _ _ _
     refine AW.ret ?_
     change ResA _ _ _ _ _
     refine res2 rfl (ResV.tmp rfl) rfl (ResV.tmp rfl) rfl ?_
     (have e : arrL l x = ([], decide (n = 0) && decide (f = x.field)) := (by unfold arrL; rw [if_neg (by omega), if_pos (by assumption), hf, hn])); rw [e]; simp_all
   ·skip
    refine AW.seq ?_
    refine AW.region ?_
    refine AL.r (rd_bin rfl rfl rfl (fun _ => rfl)) ?_
    refine AL.ra ?_
    refine AL.nil ?_
    change AW _ _ _ _ _
    refine AW.cd rfl (fun h41 => ?_) (fun h41 => ?_)
    ·skip
     refine AW.seq ?_
     refine AW.region ?_
     refine AL.rm ?_
     refine AL.r (rd_loadN_ep rfl ag_50 rfl (Nat.le_of_ble_eq_true rfl) rfl) ?_
     refine AL.op rfl (AOpB.op (op_call (merged_c l x hs hl hr (by assumption)) rfl (by kernel_rfl) rfl (none) ?_))
     rintro r rfl
     refine AL.n ?_
     refine AL.r (rd_extract rfl rfl rfl) ?_
     refine AL.r (rd_extract rfl rfl rfl) ?_
     refine AL.ra ?_
     refine AL.ra ?_
     refine AL.nil ?_
     change AW _ _ _ _ _
     refine AW.ret ?_
     change ResA _ _ _ _ _
     refine res2 rfl (ResV.tmp rfl) rfl (ResV.tmp rfl) rfl ?_
     rw [arrL, if_neg (by omega), if_neg (by omega), if_pos (by assumption)]
    ·skip
     omega
omit hx in
set_option maxHeartbeats 1000000 in
theorem arr_6 (hk : x.kind = 6) : AC Try.prog 59 [.sl (l.map FldD.cs), x.av] (fun r => r = .s (.tu [.sl ((arrL l x).1.map FldD.cs), AB (arrL l x).2])) := by
  have hc : AC Try.prog 108 [x.av] (fun r => r = .s (.sl [[AI x.at_.scope, AS x.at_.group, AS x.name], [AI x.at_.scope, AS x.at_.group, AS x.other]])) := (comes_c x).mono fun r h => by
    rw [h, show comesL x = [besR x.at_ x.name, besR x.at_ x.other] by simp [comesL, hr, hk]]; rfl
  have hb := fac_bd hr (.inl hk)
  have hw := find_worth hl x.at_
  have ha : arrL l x = if (findS l x.at_).2 ≠ 0 then ([], false) else oneL (findS l x.at_).1 x := by unfold arrL; rw [if_neg (by omega), if_neg (by omega), if_neg (by omega)]
  change AC _ _ [.sl (l.map FldD.cs), .ag [AI x.kind, AI x.at_.scope, AS x.at_.group, AS x.at_.name, AS x.name, AS x.other, AI x.factor, AI x.field.at_.scope, AS x.field.at_.group, AS x.field.at_.name, AI x.field.kind, AS x.field.dflt, .sl (csS x.field.cases), AI x.field.worth, .sl (x.forth.map PairD.cs), .sl (x.back.map PairD.cs)]] _
  refine AC.of' 138 13 Try.func59 rfl ?_
  change AW _ _ _ _ [TK.mk 0 .off, TK.mk 0 .off, TK.mk 0 .off, TK.mk 0 .off, TK.mk 0 .off, TK.mk 0 .off, TK.mk 0 .off, TK.mk 0 .off, TK.mk 0 .off, TK.mk 0 .off, TK.mk 0 .off, TK.mk 0 .off, TK.mk 0 .off]
  refine AW.seq ?_
  refine AW.region ?_
  refine AL.op rfl (AOpB.op (op_box 0 rfl rfl rfl rfl rfl ?_))
  refine AL.n ?_
  refine AL.ra ?_
  refine AL.ra ?_
  refine AL.nil ?_
  change AW _ _ _ _ _
  refine AW.seq ?_
  refine AW.seq ?_
  refine AW.freebox 3 rfl rfl (Nat.zero_lt_succ _) rfl ?_
  refine AW.norm (by simp only [anys, upds, offs, List.set_cons_zero, List.set_cons_succ]; rfl) (by (try simp only [anys, upds, offs, List.set_cons_zero, List.set_cons_succ]); (try rfl)) ?_
  refine AW.region ?_
  refine AL.r (rd_faddr_ep rfl fo_50_0 rfl) ?_
  refine AL.r (rd_load_ep rfl ag_3 rfl rfl) ?_
  refine AL.nil ?_
  change AW _ _ _ _ _
  refine AW.block ?_
  refine AW.seq ?_
  refine AW.region ?_
  refine AL.r (rd_bin rfl rfl rfl (fun _ => rfl)) ?_
  refine AL.ra ?_
  refine AL.nil ?_
  change AW _ _ _ _ _
  refine AW.cd rfl (fun h17 => ?_) (fun h17 => ?_)
  ·skip
   omega
  ·skip
   refine AW.seq ?_
   refine AW.region ?_
   refine AL.r (rd_bin rfl rfl rfl (fun _ => rfl)) ?_
   refine AL.ra ?_
   refine AL.nil ?_
   change AW _ _ _ _ _
   refine AW.cd rfl (fun h23 => ?_) (fun h23 => ?_)
   ·skip
    omega
   ·skip
    refine AW.seq ?_
    refine AW.region ?_
    refine AL.r (rd_bin rfl rfl rfl (fun _ => rfl)) ?_
    refine AL.ra ?_
    refine AL.nil ?_
    change AW _ _ _ _ _
    refine AW.cd rfl (fun h41 => ?_) (fun h41 => ?_)
    ·skip
     omega
    ·skip
     refine AW.skip ?_
     change AW _ _ _ _ _
     refine AW.seq ?_
     refine AW.region ?_
     refine AL.rm ?_
     refine AL.r (rd_faddr_ep rfl fo_50_1 rfl) ?_
     refine AL.r (rd_loadN_ep rfl ag_44 rfl (Nat.le_of_ble_eq_true rfl) rfl) ?_
     refine AL.op rfl (AOpB.op (op_call (sfind_x l x.at_ hs) rfl (by kernel_rfl) rfl (none) ?_))
     rintro r ⟨f, n, hf, hn, rfl⟩
     refine AL.n ?_
     refine AL.rm ?_
     refine AL.r (rd_extract rfl rfl rfl) ?_
     refine AL.r (rd_extract rfl rfl rfl) ?_
     refine AL.op rfl (AOpB.op (op_alloc 3 rfl ze_47 rfl ?_))
     refine AL.n ?_
     refine AL.op rfl (op_store_ rfl rfl rfl rfl rfl sz_47 ?_)
     refine AL.b ?_
     refine AL.ra ?_
     refine AL.nil ?_
     change AW _ _ _ _ _
     refine AW.seq ?_
     refine AW.seq ?_
     refine AW.region ?_
     refine AL.rm ?_
     refine AL.r (rd_bin rfl rfl rfl (fun _ => rfl)) ?_
     refine AL.nil ?_
     change AW _ _ _ _ _
     refine AW.cd rfl (fun h56 => ?_) (fun h56 => ?_)
     ·skip
      refine AW.seq ?_
      refine AW.region ?_
      refine AL.ra ?_
      refine AL.ra ?_
      refine AL.nil ?_
      change AW _ _ _ _ _
      refine AW.ret ?_
      change ResA _ _ _ _ _
      refine res2 rfl (ResV.tmp rfl) rfl (ResV.tmp rfl) rfl ?_
      (rw [ha, if_pos (by simp_all)]; rfl)
     ·skip
      refine AW.skip ?_
      change AW _ _ _ _ _
      refine AW.seq ?_
      refine AW.region ?_
      refine AL.r (rd_loadN_ep rfl ag_50 rfl (Nat.le_of_ble_eq_true rfl) rfl) ?_
      refine AL.op rfl (AOpB.op (op_call (hc) rfl (by kernel_rfl) rfl (none) ?_))
      rintro r rfl
      refine AL.n ?_
      refine AL.ra ?_
      refine AL.nil ?_
      change AW _ _ _ _ _
      refine AW.seq ?_
      refine AW.seq ?_
      refine AW.freebox 8 rfl rfl (Nat.zero_lt_succ _) rfl ?_
      refine AW.norm (by simp only [anys, upds, offs, List.set_cons_zero, List.set_cons_succ]; rfl) (by (try simp only [anys, upds, offs, List.set_cons_zero, List.set_cons_succ]); (try rfl)) ?_
      refine AW.region ?_
      refine AL.r (rd_faddr_ep rfl fo_50_0 rfl) ?_
      refine AL.r (rd_load_ep rfl ag_3 rfl rfl) ?_
      refine AL.nil ?_
      change AW _ _ _ _ _
      refine AW.block ?_
      refine AW.seq ?_
      refine AW.region ?_
      refine AL.r (rd_bin rfl rfl rfl (fun _ => rfl)) ?_
      refine AL.ra ?_
      refine AL.nil ?_
      change AW _ _ _ _ _
      refine AW.cd rfl (fun h61 => ?_) (fun h61 => ?_)
      ·skip
       refine AW.seq ?_
       apply AW.drawS (by kernel_rfl)
       ·skip
        refine ADA.r 0 rfl (ARdP.a (rdP_move rfl rfl)) rfl ?_
        refine ADA.r 1 rfl (ARdP.a (rdP_iaddr_sl rfl el_112 rfl rfl (n := 0) rfl rfl rfl)) rfl ?_
        refine ADA.r 2 rfl (rdA_loadN_ep rfl ag_44 rfl (Nat.le_of_ble_eq_true rfl) rfl) rfl ?_
        refine ADA.r 3 rfl (ARdP.a (rdP_faddr_ep rfl fo_47_4 rfl)) rfl ?_
        refine ADA.r 4 rfl (rdA_load_ep rfl ag_2 rfl rfl) rfl ?_
        refine ADA.r 5 rfl (ARdP.a (rdP_build rfl pl_47 ze_47 rfl rfl)) rfl ?_
        refine ADA.b ?_
        refine ADB.mv 6 rfl (AOpB.op (op_alloc 4 rfl ze_47 rfl ?_))
        refine ADB.n ?_
        refine ADB.mv 7 rfl (op_store_ rfl rfl rfl rfl rfl sz_47 ?_)
        refine ADB.n ?_
        refine ADB.done (by kernel_rfl) ?_
        exact ⟨rfl, rfl⟩
       skip
       change AW _ _ _ _ _
       refine AW.seq ?_
       refine AW.freebox 11 rfl rfl (Nat.zero_lt_succ _) rfl ?_
       refine AW.norm (by simp only [anys, upds, offs, List.set_cons_zero, List.set_cons_succ]; rfl) (by (try simp only [anys, upds, offs, List.set_cons_zero, List.set_cons_succ]); (try rfl)) ?_
       apply AW.drawS (by kernel_rfl)
       ·skip
        refine ADA.r 0 rfl (ARdP.a (rdP_move rfl rfl)) rfl ?_
        refine ADA.r 1 rfl (ARdP.a (rdP_iaddr_sl rfl el_112 rfl rfl (n := 1) rfl rfl rfl)) rfl ?_
        refine ADA.r 2 rfl (rdA_loadN_ep rfl ag_44 rfl (Nat.le_of_ble_eq_true rfl) rfl) rfl ?_
        refine ADA.r 3 rfl (ARdP.a (rdP_faddr_ep rfl fo_47_4 rfl)) rfl ?_
        refine ADA.r 4 rfl (rdA_load_ep rfl ag_2 rfl rfl) rfl ?_
        refine ADA.r 5 rfl (ARdP.a (rdP_faddr_ep rfl fo_50_4 rfl)) rfl ?_
        refine ADA.r 6 rfl (rdA_load_ep rfl ag_2 rfl rfl) rfl ?_
        refine ADA.r 7 rfl (ARdP.a (rdP_arith_mul rfl rfl rfl (IntWalk.i64_in _ (by rw [hf]; exact mul_bd hw.1 hw.2 hb.1 hb.2)))) rfl ?_
        refine ADA.r 8 rfl (ARdP.a (rdP_build rfl pl_47 ze_47 rfl rfl)) rfl ?_
        refine ADA.b ?_
        refine ADB.mv 9 rfl (AOpB.op (op_alloc 5 rfl ze_47 rfl ?_))
        refine ADB.n ?_
        refine ADB.mv 10 rfl (op_store_ rfl rfl rfl rfl rfl sz_47 ?_)
        refine ADB.n ?_
        refine ADB.done (by kernel_rfl) ?_
        exact ⟨rfl, rfl⟩
       skip
       change AW _ _ _ _ _
       refine AW.seq ?_
       refine AW.freebox 12 rfl rfl (Nat.zero_lt_succ _) rfl ?_
       refine AW.norm (by simp only [anys, upds, offs, List.set_cons_zero, List.set_cons_succ]; rfl) (by (try simp only [anys, upds, offs, List.set_cons_zero, List.set_cons_succ]); (try rfl)) ?_
       refine AW.draw (by kernel_rfl) ?_
       refine AD.r 0 rfl (rd_loadN_ep rfl ag_47 rfl (Nat.le_of_ble_eq_true rfl) rfl) rfl ?_
       refine AD.r 1 rfl (rd_loadN_ep rfl ag_47 rfl (Nat.le_of_ble_eq_true rfl) rfl) rfl ?_
       refine AD.r 3 rfl (rd_faddr_ep rfl fo_47_1 rfl) rfl ?_
       refine AD.r 4 rfl (rd_load_ep rfl ag_3 rfl rfl) rfl ?_
       refine AD.r 5 rfl (rd_bin rfl rfl rfl (fun _ => rfl)) rfl ?_
       refine AD.move 2 rfl (by kernel_rfl) rfl (bs_set rfl ap_42 ze_47 rfl rfl ?_)
       refine AD.n ?_
       refine AD.r 6 rfl (rd_assign rfl rfl) rfl ?_
       refine AD.r 7 rfl (rd_assign rfl rfl) rfl ?_
       refine AD.done (by kernel_rfl) ?_
       change AW _ _ _ _ _
       refine AW.ret ?_
       change ResA _ _ _ _ _
       refine res2 rfl (ResV.tmp rfl) rfl (ResV.tmp rfl) rfl ?_
       (rw [ha, if_neg (by simp_all), oneL, if_pos hk, ← hf]; rfl)
      ·skip
       omega
omit hx hl in
set_option maxHeartbeats 1000000 in
theorem arr_m (hk : x.kind = 1 ∨ x.kind = 4 ∨ x.kind = 5) : AC Try.prog 59 [.sl (l.map FldD.cs), x.av] (fun r => r = .s (.tu [.sl ((arrL l x).1.map FldD.cs), AB (arrL l x).2])) := by
  have hc : AC Try.prog 108 [x.av] (fun r => ∃ c, c = toR x ∧ r = .s (.sl [[AI c.scope, AS c.group, AS c.name]])) := (comes_c x).mono fun r h => ⟨_, rfl, by
    rw [h, show comesL x = [toR x] by (rcases hk with hk | hk | hk <;> simp [comesL, toR, hr, hk])]; rfl⟩
  have ha : arrL l x = if (findS l x.at_).2 ≠ 0 then ([], false) else oneL (findS l x.at_).1 x := by unfold arrL; rw [if_neg (by omega), if_neg (by omega), if_neg (by omega)]
  change AC _ _ [.sl (l.map FldD.cs), .ag [AI x.kind, AI x.at_.scope, AS x.at_.group, AS x.at_.name, AS x.name, AS x.other, AI x.factor, AI x.field.at_.scope, AS x.field.at_.group, AS x.field.at_.name, AI x.field.kind, AS x.field.dflt, .sl (csS x.field.cases), AI x.field.worth, .sl (x.forth.map PairD.cs), .sl (x.back.map PairD.cs)]] _
  refine AC.of' 138 13 Try.func59 rfl ?_
  change AW _ _ _ _ [TK.mk 0 .off, TK.mk 0 .off, TK.mk 0 .off, TK.mk 0 .off, TK.mk 0 .off, TK.mk 0 .off, TK.mk 0 .off, TK.mk 0 .off, TK.mk 0 .off, TK.mk 0 .off, TK.mk 0 .off, TK.mk 0 .off, TK.mk 0 .off]
  refine AW.seq ?_
  refine AW.region ?_
  refine AL.op rfl (AOpB.op (op_box 0 rfl rfl rfl rfl rfl ?_))
  refine AL.n ?_
  refine AL.ra ?_
  refine AL.ra ?_
  refine AL.nil ?_
  change AW _ _ _ _ _
  refine AW.seq ?_
  refine AW.seq ?_
  refine AW.freebox 3 rfl rfl (Nat.zero_lt_succ _) rfl ?_
  refine AW.norm (by simp only [anys, upds, offs, List.set_cons_zero, List.set_cons_succ]; rfl) (by (try simp only [anys, upds, offs, List.set_cons_zero, List.set_cons_succ]); (try rfl)) ?_
  refine AW.region ?_
  refine AL.r (rd_faddr_ep rfl fo_50_0 rfl) ?_
  refine AL.r (rd_load_ep rfl ag_3 rfl rfl) ?_
  refine AL.nil ?_
  change AW _ _ _ _ _
  refine AW.block ?_
  refine AW.seq ?_
  refine AW.region ?_
  refine AL.r (rd_bin rfl rfl rfl (fun _ => rfl)) ?_
  refine AL.ra ?_
  refine AL.nil ?_
  change AW _ _ _ _ _
  refine AW.cd rfl (fun h17 => ?_) (fun h17 => ?_)
  ·skip
   omega
  ·skip
   refine AW.seq ?_
   refine AW.region ?_
   refine AL.r (rd_bin rfl rfl rfl (fun _ => rfl)) ?_
   refine AL.ra ?_
   refine AL.nil ?_
   change AW _ _ _ _ _
   refine AW.cd rfl (fun h23 => ?_) (fun h23 => ?_)
   ·skip
    omega
   ·skip
    refine AW.seq ?_
    refine AW.region ?_
    refine AL.r (rd_bin rfl rfl rfl (fun _ => rfl)) ?_
    refine AL.ra ?_
    refine AL.nil ?_
    change AW _ _ _ _ _
    refine AW.cd rfl (fun h41 => ?_) (fun h41 => ?_)
    ·skip
     omega
    ·skip
     refine AW.skip ?_
     change AW _ _ _ _ _
     refine AW.seq ?_
     refine AW.region ?_
     refine AL.rm ?_
     refine AL.r (rd_faddr_ep rfl fo_50_1 rfl) ?_
     refine AL.r (rd_loadN_ep rfl ag_44 rfl (Nat.le_of_ble_eq_true rfl) rfl) ?_
     refine AL.op rfl (AOpB.op (op_call (sfind_x l x.at_ hs) rfl (by kernel_rfl) rfl (none) ?_))
     rintro r ⟨f, n, hf, hn, rfl⟩
     refine AL.n ?_
     refine AL.rm ?_
     refine AL.r (rd_extract rfl rfl rfl) ?_
     refine AL.r (rd_extract rfl rfl rfl) ?_
     refine AL.op rfl (AOpB.op (op_alloc 3 rfl ze_47 rfl ?_))
     refine AL.n ?_
     refine AL.op rfl (op_store_ rfl rfl rfl rfl rfl sz_47 ?_)
     refine AL.b ?_
     refine AL.ra ?_
     refine AL.nil ?_
     change AW _ _ _ _ _
     refine AW.seq ?_
     refine AW.seq ?_
     refine AW.region ?_
     refine AL.rm ?_
     refine AL.r (rd_bin rfl rfl rfl (fun _ => rfl)) ?_
     refine AL.nil ?_
     change AW _ _ _ _ _
     refine AW.cd rfl (fun h56 => ?_) (fun h56 => ?_)
     ·skip
      refine AW.seq ?_
      refine AW.region ?_
      refine AL.ra ?_
      refine AL.ra ?_
      refine AL.nil ?_
      change AW _ _ _ _ _
      refine AW.ret ?_
      change ResA _ _ _ _ _
      refine res2 rfl (ResV.tmp rfl) rfl (ResV.tmp rfl) rfl ?_
      (rw [ha, if_pos (by simp_all)]; rfl)
     ·skip
      refine AW.skip ?_
      change AW _ _ _ _ _
      refine AW.seq ?_
      refine AW.region ?_
      refine AL.r (rd_loadN_ep rfl ag_50 rfl (Nat.le_of_ble_eq_true rfl) rfl) ?_
      refine AL.op rfl (AOpB.op (op_call (hc) rfl (by kernel_rfl) rfl (none) ?_))
      rintro r ⟨c, hcc, rfl⟩
      refine AL.n ?_
      refine AL.ra ?_
      refine AL.nil ?_
      change AW _ _ _ _ _
      refine AW.seq ?_
      refine AW.seq ?_
      refine AW.region ?_
      refine AL.r (rd_faddr_ep rfl fo_50_0 rfl) ?_
      refine AL.r (rd_load_ep rfl ag_3 rfl rfl) ?_
      refine AL.nil ?_
      change AW _ _ _ _ _
      refine AW.block ?_
      refine AW.seq ?_
      refine AW.region ?_
      refine AL.r (rd_bin rfl rfl rfl (fun _ => rfl)) ?_
      refine AL.ra ?_
      refine AL.nil ?_
      change AW _ _ _ _ _
      refine AW.cd rfl (fun h61 => ?_) (fun h61 => ?_)
      ·skip
       omega
      ·skip
       refine AW.seq ?_
       refine AW.region ?_
       refine AL.r (rd_bin rfl rfl rfl (fun _ => rfl)) ?_
       refine AL.ra ?_
       refine AL.nil ?_
       change AW _ _ _ _ _
       refine AW.cd rfl (fun h84 => ?_) (fun h84 => ?_)
       ·skip
        omega
       ·skip
        refine AW.seq ?_
        refine AW.region ?_
        refine AL.r (rd_bin rfl rfl rfl (fun _ => rfl)) ?_
        refine AL.ra ?_
        refine AL.nil ?_
        change AW _ _ _ _ _
        refine AW.cd rfl (fun h100 => ?_) (fun h100 => ?_)
        ·skip
         omega
        ·skip
         refine AW.seq ?_
         refine AW.region ?_
         refine AL.r (rd_bin rfl rfl rfl (fun _ => rfl)) ?_
         refine AL.ra ?_
         refine AL.nil ?_
         change AW _ _ _ _ _
         refine AW.cd rfl (fun h111 => ?_) (fun h111 => ?_)
         ·skip
          omega
         ·skip
          refine AW.skip ?_
          change AW _ _ _ _ _
          refine AW.seq ?_
          refine AW.region ?_
          refine AL.rm ?_
          refine AL.r (rd_iaddr_sl rfl el_112 rfl rfl (n := 0) rfl rfl rfl) ?_
          refine AL.r (rd_loadN_ep rfl ag_44 rfl (Nat.le_of_ble_eq_true rfl) rfl) ?_
          refine AL.r (rd_faddr_bx rfl fo_47_0 rfl rfl ⟨_, _, rfl⟩) ?_
          refine AL.op rfl (op_store_ rfl rfl rfl rfl rfl sz_44 ?_)
          refine AL.b ?_
          refine AL.nil ?_
          change AW _ _ _ _ _
          refine AW.seq ?_
          refine AW.region ?_
          refine AL.r (rd_loadN_bx rfl ag_47 rfl rfl (Nat.le_of_ble_eq_true rfl) rfl) ?_
          refine AL.op rfl (AOpB.op (bs_set rfl ap_42 ze_47 rfl rfl ?_))
          refine AL.n ?_
          refine AL.ra ?_
          refine AL.ra ?_
          refine AL.nil ?_
          change AW _ _ _ _ _
          refine AW.ret ?_
          change ResA _ _ _ _ _
          refine res2 rfl (ResV.tmp rfl) rfl (ResV.tmp rfl) rfl ?_
          (rw [ha, if_neg (by simp_all), oneL, if_neg (by omega), if_neg (by omega), if_neg (by omega), if_neg (by omega), ← hf, ← hcc]; rfl)
omit hl hr in
set_option maxHeartbeats 1000000 in
theorem arr_c (hk : x.kind = 7 ∨ x.kind = 8 ∨ x.kind = 10) : AC Try.prog 59 [.sl (l.map FldD.cs), x.av] (fun r => r = .s (.tu [.sl ((arrL l x).1.map FldD.cs), AB (arrL l x).2])) := by
  have h2 := hx.forth; have h3 := hx.back
  have ha : arrL l x = if (findS l x.at_).2 ≠ 0 then ([], false) else oneL (findS l x.at_).1 x := by unfold arrL; rw [if_neg (by omega), if_neg (by omega), if_neg (by omega)]
  change AC _ _ [.sl (l.map FldD.cs), .ag [AI x.kind, AI x.at_.scope, AS x.at_.group, AS x.at_.name, AS x.name, AS x.other, AI x.factor, AI x.field.at_.scope, AS x.field.at_.group, AS x.field.at_.name, AI x.field.kind, AS x.field.dflt, .sl (csS x.field.cases), AI x.field.worth, .sl (x.forth.map PairD.cs), .sl (x.back.map PairD.cs)]] _
  refine AC.of' 138 13 Try.func59 rfl ?_
  change AW _ _ _ _ [TK.mk 0 .off, TK.mk 0 .off, TK.mk 0 .off, TK.mk 0 .off, TK.mk 0 .off, TK.mk 0 .off, TK.mk 0 .off, TK.mk 0 .off, TK.mk 0 .off, TK.mk 0 .off, TK.mk 0 .off, TK.mk 0 .off, TK.mk 0 .off]
  refine AW.seq ?_
  refine AW.region ?_
  refine AL.op rfl (AOpB.op (op_box 0 rfl rfl rfl rfl rfl ?_))
  refine AL.n ?_
  refine AL.ra ?_
  refine AL.ra ?_
  refine AL.nil ?_
  change AW _ _ _ _ _
  refine AW.seq ?_
  refine AW.seq ?_
  refine AW.freebox 3 rfl rfl (Nat.zero_lt_succ _) rfl ?_
  refine AW.norm (by simp only [anys, upds, offs, List.set_cons_zero, List.set_cons_succ]; rfl) (by (try simp only [anys, upds, offs, List.set_cons_zero, List.set_cons_succ]); (try rfl)) ?_
  refine AW.region ?_
  refine AL.r (rd_faddr_ep rfl fo_50_0 rfl) ?_
  refine AL.r (rd_load_ep rfl ag_3 rfl rfl) ?_
  refine AL.nil ?_
  change AW _ _ _ _ _
  refine AW.block ?_
  refine AW.seq ?_
  refine AW.region ?_
  refine AL.r (rd_bin rfl rfl rfl (fun _ => rfl)) ?_
  refine AL.ra ?_
  refine AL.nil ?_
  change AW _ _ _ _ _
  refine AW.cd rfl (fun h17 => ?_) (fun h17 => ?_)
  ·skip
   omega
  ·skip
   refine AW.seq ?_
   refine AW.region ?_
   refine AL.r (rd_bin rfl rfl rfl (fun _ => rfl)) ?_
   refine AL.ra ?_
   refine AL.nil ?_
   change AW _ _ _ _ _
   refine AW.cd rfl (fun h23 => ?_) (fun h23 => ?_)
   ·skip
    omega
   ·skip
    refine AW.seq ?_
    refine AW.region ?_
    refine AL.r (rd_bin rfl rfl rfl (fun _ => rfl)) ?_
    refine AL.ra ?_
    refine AL.nil ?_
    change AW _ _ _ _ _
    refine AW.cd rfl (fun h41 => ?_) (fun h41 => ?_)
    ·skip
     omega
    ·skip
     refine AW.skip ?_
     change AW _ _ _ _ _
     refine AW.seq ?_
     refine AW.region ?_
     refine AL.rm ?_
     refine AL.r (rd_faddr_ep rfl fo_50_1 rfl) ?_
     refine AL.r (rd_loadN_ep rfl ag_44 rfl (Nat.le_of_ble_eq_true rfl) rfl) ?_
     refine AL.op rfl (AOpB.op (op_call (sfind_x l x.at_ hs) rfl (by kernel_rfl) rfl (none) ?_))
     rintro r ⟨f, n, hf, hn, rfl⟩
     refine AL.n ?_
     refine AL.rm ?_
     refine AL.r (rd_extract rfl rfl rfl) ?_
     refine AL.r (rd_extract rfl rfl rfl) ?_
     refine AL.op rfl (AOpB.op (op_alloc 3 rfl ze_47 rfl ?_))
     refine AL.n ?_
     refine AL.op rfl (op_store_ rfl rfl rfl rfl rfl sz_47 ?_)
     refine AL.b ?_
     refine AL.ra ?_
     refine AL.nil ?_
     change AW _ _ _ _ _
     refine AW.seq ?_
     refine AW.seq ?_
     refine AW.region ?_
     refine AL.rm ?_
     refine AL.r (rd_bin rfl rfl rfl (fun _ => rfl)) ?_
     refine AL.nil ?_
     change AW _ _ _ _ _
     refine AW.cd rfl (fun h56 => ?_) (fun h56 => ?_)
     ·skip
      refine AW.seq ?_
      refine AW.region ?_
      refine AL.ra ?_
      refine AL.ra ?_
      refine AL.nil ?_
      change AW _ _ _ _ _
      refine AW.ret ?_
      change ResA _ _ _ _ _
      refine res2 rfl (ResV.tmp rfl) rfl (ResV.tmp rfl) rfl ?_
      (rw [ha, if_pos (by simp_all)]; rfl)
     ·skip
      refine AW.skip ?_
      change AW _ _ _ _ _
      refine AW.seq ?_
      refine AW.region ?_
      refine AL.r (rd_loadN_ep rfl ag_50 rfl (Nat.le_of_ble_eq_true rfl) rfl) ?_
      refine AL.op rfl (AOpB.op (op_call (comes_c x) rfl (by kernel_rfl) rfl (none) ?_))
      rintro r rfl
      refine AL.n ?_
      refine AL.ra ?_
      refine AL.nil ?_
      change AW _ _ _ _ _
      refine AW.seq ?_
      refine AW.seq ?_
      refine AW.freebox 8 rfl rfl (Nat.zero_lt_succ _) rfl ?_
      refine AW.norm (by simp only [anys, upds, offs, List.set_cons_zero, List.set_cons_succ]; rfl) (by (try simp only [anys, upds, offs, List.set_cons_zero, List.set_cons_succ]); (try rfl)) ?_
      refine AW.region ?_
      refine AL.r (rd_faddr_ep rfl fo_50_0 rfl) ?_
      refine AL.r (rd_load_ep rfl ag_3 rfl rfl) ?_
      refine AL.nil ?_
      change AW _ _ _ _ _
      refine AW.block ?_
      refine AW.seq ?_
      refine AW.region ?_
      refine AL.r (rd_bin rfl rfl rfl (fun _ => rfl)) ?_
      refine AL.ra ?_
      refine AL.nil ?_
      change AW _ _ _ _ _
      refine AW.cd rfl (fun h61 => ?_) (fun h61 => ?_)
      ·skip
       omega
      ·skip
       refine AW.seq ?_
       refine AW.region ?_
       refine AL.r (rd_bin rfl rfl rfl (fun _ => rfl)) ?_
       refine AL.ra ?_
       refine AL.nil ?_
       change AW _ _ _ _ _
       refine AW.cd rfl (fun h84 => ?_) (fun h84 => ?_)
       ·skip
        refine AW.seq ?_
        refine AW.draw (by kernel_rfl) ?_
        refine AD.r 0 rfl (rd_faddr_ep rfl fo_50_1 rfl) rfl ?_
        refine AD.r 1 rfl (rd_loadN_ep rfl ag_44 rfl (Nat.le_of_ble_eq_true rfl) rfl) rfl ?_
        refine AD.r 2 rfl (rd_build rfl pl_47 ze_47 rfl rfl) rfl ?_
        refine AD.r 4 rfl (rd_faddr_ep rfl fo_47_1 rfl) rfl ?_
        refine AD.r 5 rfl (rd_load_ep rfl ag_3 rfl rfl) rfl ?_
        refine AD.r 6 rfl (rd_bin rfl rfl rfl (fun _ => rfl)) rfl ?_
        refine AD.r 7 rfl (rd_move rfl rfl) rfl ?_
        refine AD.fk (d := 93) rfl (fun h93 => ?_) (fun h93 => ?_)
        ·skip
         refine AD.n ?_
         refine AD.r 8 rfl (rd_faddr_ep rfl fo_47_2 rfl) ⟨_, _, rfl, rfl, rfl⟩ ?_
         refine AD.r 9 rfl (rd_load_ep rfl ag_9 rfl rfl) ⟨_, _, rfl, rfl, rfl⟩ ?_
         refine AD.r 10 rfl (rd_faddr_ep rfl fo_50_3 rfl) ⟨_, _, rfl, rfl, rfl⟩ ?_
         refine AD.r 11 rfl (rd_load_ep rfl ag_9 rfl rfl) ⟨_, _, rfl, rfl, rfl⟩ ?_
         refine AD.r 12 rfl (rd_seq rfl rfl rfl) ⟨_, _, rfl, rfl, rfl⟩ ?_
         refine AD.r 13 rfl (rd_pick_t rfl rfl rfl) rfl ?_
         refine AD.move 3 rfl (by kernel_rfl) rfl (bs_set rfl ap_42 ze_47 rfl rfl ?_)
         refine AD.n ?_
         refine AD.r 14 rfl (rd_assign rfl rfl) rfl ?_
         refine AD.r 15 rfl (rd_assign rfl rfl) rfl ?_
         refine AD.done (by kernel_rfl) ?_
         change AW _ _ _ _ _
         refine AW.ret ?_
         change ResA _ _ _ _ _
         refine res2 rfl (ResV.tmp rfl) rfl (ResV.tmp rfl) rfl ?_
         (have e : arrL l x = ([⟨x.at_, 4, [], [], 0⟩], decide (f.kind = 2) && decide (f.dflt = x.other)) := (by rw [ha, if_neg (by simp_all), oneL, if_neg (by omega), if_pos (by assumption), ← hf])); rw [e]; (simp_all [FldD.cs, csS] <;> (rw [Bool.eq_iff_iff]; simp))
        ·skip
         refine AD.n ?_
         refine AD.s 8 rfl ⟨_, _, rfl, rfl, rfl⟩ ?_
         refine AD.s 9 rfl ⟨_, _, rfl, rfl, rfl⟩ ?_
         refine AD.s 10 rfl ⟨_, _, rfl, rfl, rfl⟩ ?_
         refine AD.s 11 rfl ⟨_, _, rfl, rfl, rfl⟩ ?_
         refine AD.s 12 rfl ⟨_, _, rfl, rfl, rfl⟩ ?_
         refine AD.r 13 rfl (rd_pick_f rfl rfl rfl) rfl ?_
         refine AD.move 3 rfl (by kernel_rfl) rfl (bs_set rfl ap_42 ze_47 rfl rfl ?_)
         refine AD.n ?_
         refine AD.r 14 rfl (rd_assign rfl rfl) rfl ?_
         refine AD.r 15 rfl (rd_assign rfl rfl) rfl ?_
         refine AD.done (by kernel_rfl) ?_
         change AW _ _ _ _ _
         refine AW.ret ?_
         change ResA _ _ _ _ _
         refine res2 rfl (ResV.tmp rfl) rfl (ResV.tmp rfl) rfl ?_
         (have e : arrL l x = ([⟨x.at_, 4, [], [], 0⟩], decide (f.kind = 2) && decide (f.dflt = x.other)) := (by rw [ha, if_neg (by simp_all), oneL, if_neg (by omega), if_pos (by assumption), ← hf])); rw [e]; (simp_all [FldD.cs, csS] <;> (rw [Bool.eq_iff_iff]; simp))
       ·skip
        refine AW.seq ?_
        refine AW.region ?_
        refine AL.r (rd_bin rfl rfl rfl (fun _ => rfl)) ?_
        refine AL.ra ?_
        refine AL.nil ?_
        change AW _ _ _ _ _
        refine AW.cd rfl (fun h100 => ?_) (fun h100 => ?_)
        ·skip
         refine AW.seq ?_
         refine AW.draw (by kernel_rfl) ?_
         refine AD.r 0 rfl (rd_faddr_ep rfl fo_50_1 rfl) rfl ?_
         refine AD.r 1 rfl (rd_loadN_ep rfl ag_44 rfl (Nat.le_of_ble_eq_true rfl) rfl) rfl ?_
         refine AD.r 2 rfl (rd_faddr_ep rfl fo_50_3 rfl) rfl ?_
         refine AD.r 3 rfl (rd_load_ep rfl ag_9 rfl rfl) rfl ?_
         refine AD.r 4 rfl (rd_build rfl pl_47 ze_47 rfl rfl) rfl ?_
         refine AD.r 6 rfl (rd_faddr_ep rfl fo_47_1 rfl) rfl ?_
         refine AD.r 7 rfl (rd_load_ep rfl ag_3 rfl rfl) rfl ?_
         refine AD.r 8 rfl (rd_bin rfl rfl rfl (fun _ => rfl)) rfl ?_
         refine AD.move 5 rfl (by kernel_rfl) rfl (bs_set rfl ap_42 ze_47 rfl rfl ?_)
         refine AD.n ?_
         refine AD.r 9 rfl (rd_assign rfl rfl) rfl ?_
         refine AD.r 10 rfl (rd_assign rfl rfl) rfl ?_
         refine AD.done (by kernel_rfl) ?_
         change AW _ _ _ _ _
         refine AW.ret ?_
         change ResA _ _ _ _ _
         refine res2 rfl (ResV.tmp rfl) rfl (ResV.tmp rfl) rfl ?_
         (rw [ha, if_neg (by simp_all), oneL, if_neg (by omega), if_neg (by omega), if_pos (by assumption), ← hf]; rfl)
        ·skip
         refine AW.seq ?_
         refine AW.region ?_
         refine AL.r (rd_bin rfl rfl rfl (fun _ => rfl)) ?_
         refine AL.ra ?_
         refine AL.nil ?_
         change AW _ _ _ _ _
         refine AW.cd rfl (fun h111 => ?_) (fun h111 => ?_)
         ·skip
          refine AW.seq ?_
          refine AW.drawA (by kernel_rfl) ?_
          refine ADA.r 0 rfl (ARdP.a (rdP_faddr_ep rfl fo_50_1 rfl)) rfl ?_
          refine ADA.r 1 rfl (rdA_loadN_ep rfl ag_44 rfl (Nat.le_of_ble_eq_true rfl) rfl) rfl ?_
          refine ADA.r 2 rfl (ARdP.a (rdP_faddr_ep rfl fo_50_2 rfl)) rfl ?_
          refine ADA.r 3 rfl (rdA_load_ep rfl ag_9 rfl rfl) rfl ?_
          refine ADA.r 4 rfl (ARdP.a (rdP_faddr_ep rfl fo_50_6 rfl)) rfl ?_
          refine ADA.r 5 rfl (rdA_load_ep rfl ag_48 rfl rfl) rfl ?_
          refine ADA.b ?_
          apply ADB.cut
          ·intro key23_6
           refine ADB.all (is := [6, 8]) (by kernel_rfl) (by simp) ?_
           intro i hi
           simp only [List.mem_cons, List.not_mem_nil, or_false] at hi
           rcases hi with rfl | rfl
           ·skip
            refine ⟨_, rfl, rfl, AOpB.op (op_call (lfroms_c x.forth h2) rfl (by kernel_rfl) rfl (none) ?_)⟩
            rintro r rfl
            refine ADB.n ?_
            refine ADB.r 7 rfl (rdP_build rfl pl_47 ze_47 rfl rfl) rfl ?_
            refine ADB.mv 8 rfl (AOpB.op (op_alloc 9 rfl ze_47 rfl ?_))
            refine ADB.n ?_
            exact key23_6
           ·skip
            refine ⟨_, rfl, rfl, AOpB.op (op_alloc 9 rfl ze_47 rfl ?_)⟩
            refine ADB.n ?_
            refine ADB.mv 6 rfl (AOpB.op (op_call (lfroms_c x.forth h2) rfl (by kernel_rfl) rfl (none) ?_))
            rintro r rfl
            refine ADB.n ?_
            refine ADB.r 7 rfl (rdP_build rfl pl_47 ze_47 rfl rfl) rfl ?_
            exact ADB.use key23_6
          refine ADB.mv 9 rfl (op_store_ rfl rfl rfl rfl rfl sz_47 ?_)
          refine ADB.n ?_
          refine ADB.done (by kernel_rfl) ?_
          change AW _ _ _ _ _
          refine AW.seq ?_
          refine AW.freebox 13 rfl rfl (Nat.zero_lt_succ _) rfl ?_
          refine AW.norm (by simp only [anys, upds, offs, List.set_cons_zero, List.set_cons_succ]; rfl) (by (try simp only [anys, upds, offs, List.set_cons_zero, List.set_cons_succ]); (try rfl)) ?_
          refine AW.drawA (by kernel_rfl) ?_
          refine ADA.r 0 rfl (ARdP.a (rdP_faddr_ep rfl fo_50_1 rfl)) rfl ?_
          refine ADA.r 1 rfl (rdA_loadN_ep rfl ag_44 rfl (Nat.le_of_ble_eq_true rfl) rfl) rfl ?_
          refine ADA.r 2 rfl (ARdP.a (rdP_faddr_ep rfl fo_50_3 rfl)) rfl ?_
          refine ADA.r 3 rfl (rdA_load_ep rfl ag_9 rfl rfl) rfl ?_
          refine ADA.r 4 rfl (ARdP.a (rdP_faddr_ep rfl fo_50_7 rfl)) rfl ?_
          refine ADA.r 5 rfl (rdA_load_ep rfl ag_48 rfl rfl) rfl ?_
          refine ADA.b ?_
          apply ADB.cut
          ·intro key24_6
           refine ADB.all (is := [6, 8]) (by kernel_rfl) (by simp) ?_
           intro i hi
           simp only [List.mem_cons, List.not_mem_nil, or_false] at hi
           rcases hi with rfl | rfl
           ·skip
            refine ⟨_, rfl, rfl, AOpB.op (op_call (lfroms_c x.back h3) rfl (by kernel_rfl) rfl (none) ?_)⟩
            rintro r rfl
            refine ADB.n ?_
            refine ADB.r 7 rfl (rdP_build rfl pl_47 ze_47 rfl rfl) rfl ?_
            refine ADB.mv 8 rfl (AOpB.op (op_alloc 10 rfl ze_47 rfl ?_))
            refine ADB.n ?_
            exact key24_6
           ·skip
            refine ⟨_, rfl, rfl, AOpB.op (op_alloc 10 rfl ze_47 rfl ?_)⟩
            refine ADB.n ?_
            refine ADB.mv 6 rfl (AOpB.op (op_call (lfroms_c x.back h3) rfl (by kernel_rfl) rfl (none) ?_))
            rintro r rfl
            refine ADB.n ?_
            refine ADB.r 7 rfl (rdP_build rfl pl_47 ze_47 rfl rfl) rfl ?_
            exact ADB.use key24_6
          refine ADB.mv 9 rfl (op_store_ rfl rfl rfl rfl rfl sz_47 ?_)
          refine ADB.n ?_
          refine ADB.done (by kernel_rfl) ?_
          change AW _ _ _ _ _
          refine AW.seq ?_
          refine AW.freebox 14 rfl rfl (Nat.zero_lt_succ _) rfl ?_
          refine AW.norm (by simp only [anys, upds, offs, List.set_cons_zero, List.set_cons_succ]; rfl) (by (try simp only [anys, upds, offs, List.set_cons_zero, List.set_cons_succ]); (try rfl)) ?_
          refine AW.drawA (by kernel_rfl) ?_
          refine ADA.r 0 rfl (rdA_loadN_ep rfl ag_47 rfl (Nat.le_of_ble_eq_true rfl) rfl) rfl ?_
          refine ADA.r 2 rfl (rdA_loadN_ep rfl ag_47 rfl (Nat.le_of_ble_eq_true rfl) rfl) rfl ?_
          refine ADA.r 3 rfl (rdA_loadN_ep rfl ag_47 rfl (Nat.le_of_ble_eq_true rfl) rfl) rfl ?_
          refine ADA.b ?_
          apply ADB.cut
          ·intro key25_3
           refine ADB.all (is := [1, 4]) (by kernel_rfl) (by simp) ?_
           intro i hi
           simp only [List.mem_cons, List.not_mem_nil, or_false] at hi
           rcases hi with rfl | rfl
           ·skip
            refine ⟨_, rfl, rfl, AOpB.op (bs_set rfl ap_42 ze_47 rfl rfl ?_)⟩
            refine ADB.n ?_
            refine ADB.mv 4 rfl (AOpB.op (op_call (same_c f ⟨x.at_, 3, x.name, x.forth.map PairD.from_, 0⟩) rfl (by kernel_rfl) rfl (none) ?_))
            rintro r rfl
            refine ADB.n ?_
            refine ADB.r 5 rfl (rdP_assign rfl rfl) rfl ?_
            refine ADB.r 6 rfl (rdP_assign rfl rfl) rfl ?_
            exact key25_3
           ·skip
            refine ⟨_, rfl, rfl, AOpB.op (op_call (same_c f ⟨x.at_, 3, x.name, x.forth.map PairD.from_, 0⟩) rfl (by kernel_rfl) rfl (none) ?_)⟩
            rintro r rfl
            refine ADB.n ?_
            refine ADB.mv 1 rfl (AOpB.op (bs_set rfl ap_42 ze_47 rfl rfl ?_))
            refine ADB.n ?_
            refine ADB.r 5 rfl (rdP_assign rfl rfl) rfl ?_
            refine ADB.r 6 rfl (rdP_assign rfl rfl) rfl ?_
            exact ADB.use key25_3
          refine ADB.done (by kernel_rfl) ?_
          change AW _ _ _ _ _
          refine AW.ret ?_
          change ResA _ _ _ _ _
          refine res2 rfl (ResV.tmp rfl) rfl (ResV.tmp rfl) rfl ?_
          (rw [ha, if_neg (by simp_all), oneL, if_neg (by omega), if_neg (by omega), if_neg (by omega), if_pos (by assumption), ← hf]; rfl)
         ·skip
          omega
theorem arr_ok : AC Try.prog 59 [.sl (l.map FldD.cs), x.av] (fun r => r = .s (.tu [.sl ((arrL l x).1.map FldD.cs), AB (arrL l x).2])) := by
  have hk := rightL_kind hr
  by_cases a : x.kind = 2 ∨ x.kind = 3 ∨ x.kind = 9
  · exact arr_a l x hs hx hl hr a
  by_cases b : x.kind = 6
  · exact arr_6 l x hs hl hr b
  by_cases c : x.kind = 1 ∨ x.kind = 4 ∨ x.kind = 5
  · exact arr_m l x hs hr c
  exact arr_c l x hs hx (by omega)
end
end Go.Proofs.Ytdgcbhihmnhnaaa
