/- The document's pool, on: put, sorted, since, walked over abstract states. No conditions. -/
import Derived.Test.YtfjnkhanndkpfaaPlR
namespace Go.Proofs.Ytfjnkhanndkpfaa
set_option linter.unusedSimpArgs false
set_option linter.unusedVariables false
set_option maxRecDepth 100000
set_option maxRecDepth 100000
open Go.RowKit

def putR (m : List OpD) (o : OpD) : List OpD × Int := if rightO o = false then (m, 5) else if 0 ≤ atL m o.id ∧ m[(atL m o.id).toNat]?.getD zeroO = o then (m, 7) else if 0 ≤ atL m o.id then (m, 15) else if 1 < o.id.n ∧ atL m ⟨o.id.rep, o.id.n - 1⟩ < 0 then (m, 17) else if 399 < m.length then (m, 9) else (m ++ [o], 0)
theorem atL_lt {l : List OpD} {t : TagD} (h : 0 ≤ atL l t) : ∃ i : Nat, atL l t = (i : Int) ∧ i < l.length := by
  unfold atL at *
  cases hf : l.findIdx? (fun o => decide (o.id = t)) with
  | none => rw [hf] at h; exact absurd h (by decide)
  | some i => exact ⟨i, rfl, (List.findIdx?_eq_some_iff_getElem.1 hf).1⟩
theorem atL_b (l : List OpD) (t : TagD) : -1 ≤ atL l t ∧ atL l t ≤ (l.length : Int) := by
  rcases Int.lt_or_le (atL l t) 0 with h | h
  · unfold atL at *
    split at h
    · exact absurd h (by omega)
    · exact ⟨by omega, by omega⟩
  · obtain ⟨i, h1, h2⟩ := atL_lt h
    omega
theorem pr2 {m m' : List OpD} {c c' : Int} {p : List OpD × Int} (e : p = (m', c')) (h1 : m = m') (h2 : c = c') : RS.s (.tu [.sl (m.map OpD.cs), AI c]) = RS.s (.tu [.sl (p.1.map OpD.cs), AI p.2]) := by rw [e, h1, h2]
set_option maxHeartbeats 1000000 in
theorem rput26_c (m : List OpD) (o : OpD) : AC Try.prog 82 [.sl (m.map OpD.cs), o.av] (fun x => x = .s (.tu [.sl ((putR m o).1.map OpD.cs), AI (putR m o).2])) := by
  have hb := atL_b m o.id
  change AC _ _ [.sl (m.map OpD.cs), .ag [AI o.id.rep, AI o.id.n, AI o.schema.rep, AI o.schema.n, AI o.time, AS o.cart, AI o.kind, AS o.item, AI o.at_.scope, AS o.at_.group, AS o.at_.name, AI o.delta, AB o.has, AS o.text, .sl (o.drops.map TagD.cs)]] _
  refine AC.of' 57 5 Try.func82 rfl ?_
  change AW _ _ _ _ [TK.mk 0 .off, TK.mk 0 .off, TK.mk 0 .off, TK.mk 0 .off, TK.mk 0 .off]
  refine AW.seq ?_
  refine AW.region ?_
  refine AL.op rfl (AOpB.op (op_box 0 rfl rfl rfl rfl rfl ?_))
  refine AL.n ?_
  refine AL.ra ?_
  refine AL.ra ?_
  refine AL.nil ?_
  change AW _ _ _ _ _
  refine AW.seq ?_
  refine AW.seq ?_
  refine AW.region ?_
  refine AL.r (rd_loadN_bx rfl ag_47 rfl rfl (Nat.le_of_ble_eq_true rfl) rfl) ?_
  refine AL.op rfl (AOpB.op (op_call (oright_r o) rfl (by kernel_rfl) rfl (none) ?_))
  rintro r rfl
  refine AL.n ?_
  refine AL.r (rd_un rfl rfl (fun _ => rfl)) ?_
  refine AL.nil ?_
  change AW _ _ _ _ _
  refine AW.cd rfl (fun h10 => ?_) (fun h10 => ?_)
  ·skip
   refine AW.seq ?_
   refine AW.region ?_
   refine AL.rm ?_
   refine AL.ra ?_
   refine AL.ra ?_
   refine AL.nil ?_
   change AW _ _ _ _ _
   refine AW.ret ?_
   change ResA _ _ _ _ _
   refine res2 rfl (ResV.tmp rfl) rfl (ResV.tmp rfl) rfl ?_
   exact pr2 (p := putR m o) (m' := m) (c' := 5) (by unfold putR; rw [if_pos (by simp_all)]) rfl rfl
  ·skip
   refine AW.skip ?_
   change AW _ _ _ _ _
   refine AW.seq ?_
   refine AW.freebox 3 rfl rfl (Nat.zero_lt_succ _) rfl ?_
   refine AW.norm (by simp only [anys, upds, offs, List.set_cons_zero, List.set_cons_succ]; rfl) (by (try simp only [anys, upds, offs, List.set_cons_zero, List.set_cons_succ]); (try rfl)) ?_
   refine AW.region ?_
   have hro : rightO o = true := (by simp_all)
   have hto := (tagB_rep (by have := hro; unfold rightO at this; simp only [Bool.and_eq_true] at this; exact this.1.1.1.1.1.1.1.1.1.1.2 : tagB o.id = true)).2
   refine AL.rm ?_
   refine AL.r (rd_faddr_ep rfl fo_47_0 rfl) ?_
   refine AL.r (rd_loadN_ep rfl ag_44 rfl (Nat.le_of_ble_eq_true rfl) rfl) ?_
   refine AL.op rfl (AOpB.op (op_call (rat26_c m o.id) rfl (by kernel_rfl) rfl (none) ?_))
   rintro r rfl
   refine AL.n ?_
   refine AL.ra ?_
   refine AL.nil ?_
   change AW _ _ _ _ _
   refine AW.seq ?_
   refine AW.seq ?_
   refine AW.draw (by kernel_rfl) ?_
   refine AD.r 0 rfl (rd_move rfl rfl) rfl ?_
   refine AD.r 1 rfl (rd_bin rfl rfl rfl (fun _ => rfl)) rfl ?_
   refine AD.r 2 rfl (rd_move rfl rfl) rfl ?_
   refine AD.fk (d := 18) rfl (fun h18 => ?_) (fun h18 => ?_)
   ·skip
    refine AD.n ?_
    refine AD.r 3 rfl (rd_move rfl rfl) ⟨_, _, rfl, rfl, rfl⟩ ?_
    refine AD.r 4 rfl (rd_move rfl rfl) ⟨_, _, rfl, rfl, rfl⟩ ?_
    refine AD.r 5 rfl (rd_iaddr_sl rfl el_50 rfl rfl (n := (atL m o.id).toNat) (by omega) (getA_map (by obtain ⟨i, e1, e2⟩ := atL_lt (l := m) (t := o.id) (by omega); omega)) rfl) ⟨_, _, rfl, rfl, rfl⟩ ?_
    refine AD.r 6 rfl (rd_loadN_ep rfl ag_47 rfl (Nat.le_of_ble_eq_true rfl) rfl) ⟨_, _, rfl, rfl, rfl⟩ ?_
    refine AD.r 7 rfl (rd_loadN_ep rfl ag_47 rfl (Nat.le_of_ble_eq_true rfl) rfl) ⟨_, _, rfl, rfl, rfl⟩ ?_
    refine AD.move 8 rfl (by kernel_rfl) ⟨_, _, rfl, rfl, rfl⟩ (op_call (rsameo_c (m[(atL m o.id).toNat]?.getD zeroO) o) rfl (by kernel_rfl) rfl (none) ?_)
    rintro r rfl
    refine AD.n ?_
    refine AD.r 9 rfl (rd_pick_t rfl rfl rfl) rfl ?_
    refine AD.done (by kernel_rfl) ?_
    change AW _ _ _ _ _
    refine AW.cd rfl (fun h25 => ?_) (fun h25 => ?_)
    ·skip
     refine AW.seq ?_
     refine AW.region ?_
     refine AL.rm ?_
     refine AL.ra ?_
     refine AL.ra ?_
     refine AL.nil ?_
     change AW _ _ _ _ _
     refine AW.ret ?_
     change ResA _ _ _ _ _
     refine res2 rfl (ResV.tmp rfl) rfl (ResV.tmp rfl) rfl ?_
     exact pr2 (p := putR m o) (m' := m) (c' := 7) (by unfold putR; rw [if_neg (by simp_all), if_pos (by simp_all)]) rfl rfl
    ·skip
     refine AW.skip ?_
     change AW _ _ _ _ _
     refine AW.seq ?_
     refine AW.seq ?_
     refine AW.region ?_
     refine AL.rm ?_
     refine AL.r (rd_bin rfl rfl rfl (fun _ => rfl)) ?_
     refine AL.nil ?_
     change AW _ _ _ _ _
     refine AW.cd rfl (fun h28 => ?_) (fun h28 => ?_)
     ·skip
      refine AW.seq ?_
      refine AW.region ?_
      refine AL.rm ?_
      refine AL.ra ?_
      refine AL.ra ?_
      refine AL.nil ?_
      change AW _ _ _ _ _
      refine AW.ret ?_
      change ResA _ _ _ _ _
      refine res2 rfl (ResV.tmp rfl) rfl (ResV.tmp rfl) rfl ?_
      exact pr2 (p := putR m o) (m' := m) (c' := 15) (by unfold putR; rw [if_neg (by simp_all), if_neg (by simp_all), if_pos (by omega)]) rfl rfl
     ·skip
      refine AW.skip ?_
      change AW _ _ _ _ _
      refine AW.seq ?_
      refine AW.seq ?_
      refine AW.region ?_
      refine AL.r (rd_faddr_ep rfl fo_47_0 rfl) ?_
      refine AL.r (rd_faddr_ep rfl fo_44_1 rfl) ?_
      refine AL.r (rd_load_ep rfl ag_3 rfl rfl) ?_
      refine AL.r (rd_bin rfl rfl rfl (fun _ => rfl)) ?_
      refine AL.rm ?_
      refine AL.fk (d := 34) rfl (fun h34 => ?_) (fun h34 => ?_)
      ·skip
       refine AL.n ?_
       refine AL.ro (rd_move rfl rfl) ?_
       refine AL.ro (rd_faddr_ep rfl fo_47_0 rfl) ?_
       refine AL.ro (rd_faddr_ep rfl fo_44_0 rfl) ?_
       refine AL.ro (rd_load_ep rfl ag_3 rfl rfl) ?_
       refine AL.ro (rd_faddr_ep rfl fo_47_0 rfl) ?_
       refine AL.ro (rd_faddr_ep rfl fo_44_1 rfl) ?_
       refine AL.ro (rd_load_ep rfl ag_3 rfl rfl) ?_
       refine AL.ro (rd_arith_sub rfl rfl rfl (by first | exact IntWalk.i64_in _ (by omega) | rfl)) ?_
       refine AL.ro (rd_build rfl pl_44 ze_44 rfl rfl) ?_
       refine AL.on rfl rfl rfl (AOpB.op (op_call (rat26_c m ⟨o.id.rep, o.id.n - 1⟩) rfl (by kernel_rfl) rfl (none) ?_))
       rintro r rfl
       refine AL.n ?_
       refine AL.ro (rd_bin rfl rfl rfl (fun _ => rfl)) ?_
       refine AL.r (rd_pick_t rfl rfl rfl) ?_
       refine AL.nil ?_
       change AW _ _ _ _ _
       refine AW.cd rfl (fun h46 => ?_) (fun h46 => ?_)
       ·skip
        refine AW.seq ?_
        refine AW.region ?_
        refine AL.rm ?_
        refine AL.ra ?_
        refine AL.ra ?_
        refine AL.nil ?_
        change AW _ _ _ _ _
        refine AW.ret ?_
        change ResA _ _ _ _ _
        refine res2 rfl (ResV.tmp rfl) rfl (ResV.tmp rfl) rfl ?_
        exact pr2 (p := putR m o) (m' := m) (c' := 17) (by unfold putR; rw [if_neg (by simp_all), if_neg (fun q => absurd q.1 (by omega)), if_neg (by omega), if_pos ⟨by omega, by assumption⟩]) rfl rfl
       ·skip
        refine AW.skip ?_
        change AW _ _ _ _ _
        refine AW.seq ?_
        refine AW.seq ?_
        refine AW.region ?_
        refine AL.rm ?_
        refine AL.r (rd_len_sl rfl el_50 rfl) ?_
        refine AL.r (rd_bin rfl rfl rfl (fun _ => rfl)) ?_
        refine AL.nil ?_
        change AW _ _ _ _ _
        refine AW.cd rfl (fun h50 => ?_) (fun h50 => ?_)
        ·skip
         refine AW.seq ?_
         refine AW.region ?_
         refine AL.rm ?_
         refine AL.ra ?_
         refine AL.ra ?_
         refine AL.nil ?_
         change AW _ _ _ _ _
         refine AW.ret ?_
         change ResA _ _ _ _ _
         refine res2 rfl (ResV.tmp rfl) rfl (ResV.tmp rfl) rfl ?_
         exact pr2 (p := putR m o) (m' := m) (c' := 9) (by unfold putR; rw [if_neg (by simp_all), if_neg (fun q => absurd q.1 (by omega)), if_neg (by omega), if_neg (by omega), if_pos (by omega)]) rfl rfl
        ·skip
         refine AW.skip ?_
         change AW _ _ _ _ _
         refine AW.seq ?_
         refine AW.region ?_
         have hml : m.length ≤ 399 := (by omega)
         refine AL.op rfl (AOpB.op (bs_own 1 rfl ap_50 ze_47 rfl rfl rfl ?_))
         refine AL.n ?_
         refine AL.rm ?_
         refine AL.op rfl (op_append rfl ap_50 rfl rfl (src_s rfl) (by first | omega | (simp; omega) | simp) (by first | omega | (simp; omega) | simp) ?_)
         refine AL.n ?_
         refine AL.ra ?_
         refine AL.nil ?_
         change AW _ _ _ _ _
         refine AW.seq ?_
         refine AW.region ?_
         refine AL.rm ?_
         refine AL.r (rd_loadN_ep rfl ag_47 rfl (Nat.le_of_ble_eq_true rfl) rfl) ?_
         refine AL.op rfl (AOpB.op (bs_set rfl ap_50 ze_47 rfl rfl ?_))
         refine AL.n ?_
         refine AL.op rfl (op_append rfl ap_50 rfl rfl (src_s rfl) (by first | omega | (simp; omega) | simp) (by first | omega | (simp; omega) | simp) ?_)
         refine AL.n ?_
         refine AL.ra ?_
         refine AL.ra ?_
         refine AL.nil ?_
         change AW _ _ _ _ _
         refine AW.ret ?_
         change ResA _ _ _ _ _
         refine res2 rfl (ResV.tmp rfl) (by first | rfl | exact setA_own rfl) (ResV.tmp rfl) rfl ?_
         refine Eq.trans (by simp [OpD.cs]) (pr2 (p := putR m o) (m := m ++ [o]) (m' := m ++ [o]) (c' := 0) (e := by unfold putR; rw [if_neg (by simp_all), if_neg (fun q => absurd q.1 (by omega)), if_neg (by omega), if_neg (by omega), if_neg (by omega)]) (c := 0) rfl rfl)
      ·skip
       refine AL.n ?_
       refine AL.rf ?_
       refine AL.rf ?_
       refine AL.rf ?_
       refine AL.rf ?_
       refine AL.rf ?_
       refine AL.rf ?_
       refine AL.rf ?_
       refine AL.rf ?_
       refine AL.rf ?_
       refine AL.rf ?_
       refine AL.rf ?_
       refine AL.r (rd_pick_f rfl rfl rfl) ?_
       refine AL.nil ?_
       change AW _ _ _ _ _
       refine AW.cond_f rfl ?_
       refine AW.skip ?_
       change AW _ _ _ _ _
       refine AW.seq ?_
       refine AW.seq ?_
       refine AW.region ?_
       refine AL.rm ?_
       refine AL.r (rd_len_sl rfl el_50 rfl) ?_
       refine AL.r (rd_bin rfl rfl rfl (fun _ => rfl)) ?_
       refine AL.nil ?_
       change AW _ _ _ _ _
       refine AW.cd rfl (fun h50 => ?_) (fun h50 => ?_)
       ·skip
        refine AW.seq ?_
        refine AW.region ?_
        refine AL.rm ?_
        refine AL.ra ?_
        refine AL.ra ?_
        refine AL.nil ?_
        change AW _ _ _ _ _
        refine AW.ret ?_
        change ResA _ _ _ _ _
        refine res2 rfl (ResV.tmp rfl) rfl (ResV.tmp rfl) rfl ?_
        exact pr2 (p := putR m o) (m' := m) (c' := 9) (by unfold putR; rw [if_neg (by simp_all), if_neg (fun q => absurd q.1 (by omega)), if_neg (by omega), if_neg (by omega), if_pos (by omega)]) rfl rfl
       ·skip
        refine AW.skip ?_
        change AW _ _ _ _ _
        refine AW.seq ?_
        refine AW.region ?_
        have hml : m.length ≤ 399 := (by omega)
        refine AL.op rfl (AOpB.op (bs_own 1 rfl ap_50 ze_47 rfl rfl rfl ?_))
        refine AL.n ?_
        refine AL.rm ?_
        refine AL.op rfl (op_append rfl ap_50 rfl rfl (src_s rfl) (by first | omega | (simp; omega) | simp) (by first | omega | (simp; omega) | simp) ?_)
        refine AL.n ?_
        refine AL.ra ?_
        refine AL.nil ?_
        change AW _ _ _ _ _
        refine AW.seq ?_
        refine AW.region ?_
        refine AL.rm ?_
        refine AL.r (rd_loadN_ep rfl ag_47 rfl (Nat.le_of_ble_eq_true rfl) rfl) ?_
        refine AL.op rfl (AOpB.op (bs_set rfl ap_50 ze_47 rfl rfl ?_))
        refine AL.n ?_
        refine AL.op rfl (op_append rfl ap_50 rfl rfl (src_s rfl) (by first | omega | (simp; omega) | simp) (by first | omega | (simp; omega) | simp) ?_)
        refine AL.n ?_
        refine AL.ra ?_
        refine AL.ra ?_
        refine AL.nil ?_
        change AW _ _ _ _ _
        refine AW.ret ?_
        change ResA _ _ _ _ _
        refine res2 rfl (ResV.tmp rfl) (by first | rfl | exact setA_own rfl) (ResV.tmp rfl) rfl ?_
        refine Eq.trans (by simp [OpD.cs]) (pr2 (p := putR m o) (m := m ++ [o]) (m' := m ++ [o]) (c' := 0) (e := by unfold putR; rw [if_neg (by simp_all), if_neg (fun q => absurd q.1 (by omega)), if_neg (by omega), if_neg (by omega), if_neg (by omega)]) (c := 0) rfl rfl)
   ·skip
    refine AD.n ?_
    refine AD.s 3 rfl ⟨_, _, rfl, rfl, rfl⟩ ?_
    refine AD.s 4 rfl ⟨_, _, rfl, rfl, rfl⟩ ?_
    refine AD.s 5 rfl ⟨_, _, rfl, rfl, rfl⟩ ?_
    refine AD.s 6 rfl ⟨_, _, rfl, rfl, rfl⟩ ?_
    refine AD.s 7 rfl ⟨_, _, rfl, rfl, rfl⟩ ?_
    refine AD.s 8 rfl ⟨_, _, rfl, rfl, rfl⟩ ?_
    refine AD.r 9 rfl (rd_pick_f rfl rfl rfl) rfl ?_
    refine AD.done (by kernel_rfl) ?_
    change AW _ _ _ _ _
    refine AW.cond_f rfl ?_
    refine AW.skip ?_
    change AW _ _ _ _ _
    refine AW.seq ?_
    refine AW.seq ?_
    refine AW.region ?_
    refine AL.rm ?_
    refine AL.r (rd_bin rfl rfl rfl (fun _ => rfl)) ?_
    refine AL.nil ?_
    change AW _ _ _ _ _
    refine AW.cd rfl (fun h28 => ?_) (fun h28 => ?_)
    ·skip
     refine AW.seq ?_
     refine AW.region ?_
     refine AL.rm ?_
     refine AL.ra ?_
     refine AL.ra ?_
     refine AL.nil ?_
     change AW _ _ _ _ _
     refine AW.ret ?_
     change ResA _ _ _ _ _
     refine res2 rfl (ResV.tmp rfl) rfl (ResV.tmp rfl) rfl ?_
     exact pr2 (p := putR m o) (m' := m) (c' := 15) (by unfold putR; rw [if_neg (by simp_all), if_neg (by simp_all), if_pos (by omega)]) rfl rfl
    ·skip
     refine AW.skip ?_
     change AW _ _ _ _ _
     refine AW.seq ?_
     refine AW.seq ?_
     refine AW.region ?_
     refine AL.r (rd_faddr_ep rfl fo_47_0 rfl) ?_
     refine AL.r (rd_faddr_ep rfl fo_44_1 rfl) ?_
     refine AL.r (rd_load_ep rfl ag_3 rfl rfl) ?_
     refine AL.r (rd_bin rfl rfl rfl (fun _ => rfl)) ?_
     refine AL.rm ?_
     refine AL.fk (d := 34) rfl (fun h34 => ?_) (fun h34 => ?_)
     ·skip
      refine AL.n ?_
      refine AL.ro (rd_move rfl rfl) ?_
      refine AL.ro (rd_faddr_ep rfl fo_47_0 rfl) ?_
      refine AL.ro (rd_faddr_ep rfl fo_44_0 rfl) ?_
      refine AL.ro (rd_load_ep rfl ag_3 rfl rfl) ?_
      refine AL.ro (rd_faddr_ep rfl fo_47_0 rfl) ?_
      refine AL.ro (rd_faddr_ep rfl fo_44_1 rfl) ?_
      refine AL.ro (rd_load_ep rfl ag_3 rfl rfl) ?_
      refine AL.ro (rd_arith_sub rfl rfl rfl (by first | exact IntWalk.i64_in _ (by omega) | rfl)) ?_
      refine AL.ro (rd_build rfl pl_44 ze_44 rfl rfl) ?_
      refine AL.on rfl rfl rfl (AOpB.op (op_call (rat26_c m ⟨o.id.rep, o.id.n - 1⟩) rfl (by kernel_rfl) rfl (none) ?_))
      rintro r rfl
      refine AL.n ?_
      refine AL.ro (rd_bin rfl rfl rfl (fun _ => rfl)) ?_
      refine AL.r (rd_pick_t rfl rfl rfl) ?_
      refine AL.nil ?_
      change AW _ _ _ _ _
      refine AW.cd rfl (fun h46 => ?_) (fun h46 => ?_)
      ·skip
       refine AW.seq ?_
       refine AW.region ?_
       refine AL.rm ?_
       refine AL.ra ?_
       refine AL.ra ?_
       refine AL.nil ?_
       change AW _ _ _ _ _
       refine AW.ret ?_
       change ResA _ _ _ _ _
       refine res2 rfl (ResV.tmp rfl) rfl (ResV.tmp rfl) rfl ?_
       exact pr2 (p := putR m o) (m' := m) (c' := 17) (by unfold putR; rw [if_neg (by simp_all), if_neg (fun q => absurd q.1 (by omega)), if_neg (by omega), if_pos ⟨by omega, by assumption⟩]) rfl rfl
      ·skip
       refine AW.skip ?_
       change AW _ _ _ _ _
       refine AW.seq ?_
       refine AW.seq ?_
       refine AW.region ?_
       refine AL.rm ?_
       refine AL.r (rd_len_sl rfl el_50 rfl) ?_
       refine AL.r (rd_bin rfl rfl rfl (fun _ => rfl)) ?_
       refine AL.nil ?_
       change AW _ _ _ _ _
       refine AW.cd rfl (fun h50 => ?_) (fun h50 => ?_)
       ·skip
        refine AW.seq ?_
        refine AW.region ?_
        refine AL.rm ?_
        refine AL.ra ?_
        refine AL.ra ?_
        refine AL.nil ?_
        change AW _ _ _ _ _
        refine AW.ret ?_
        change ResA _ _ _ _ _
        refine res2 rfl (ResV.tmp rfl) rfl (ResV.tmp rfl) rfl ?_
        exact pr2 (p := putR m o) (m' := m) (c' := 9) (by unfold putR; rw [if_neg (by simp_all), if_neg (fun q => absurd q.1 (by omega)), if_neg (by omega), if_neg (by omega), if_pos (by omega)]) rfl rfl
       ·skip
        refine AW.skip ?_
        change AW _ _ _ _ _
        refine AW.seq ?_
        refine AW.region ?_
        have hml : m.length ≤ 399 := (by omega)
        refine AL.op rfl (AOpB.op (bs_own 1 rfl ap_50 ze_47 rfl rfl rfl ?_))
        refine AL.n ?_
        refine AL.rm ?_
        refine AL.op rfl (op_append rfl ap_50 rfl rfl (src_s rfl) (by first | omega | (simp; omega) | simp) (by first | omega | (simp; omega) | simp) ?_)
        refine AL.n ?_
        refine AL.ra ?_
        refine AL.nil ?_
        change AW _ _ _ _ _
        refine AW.seq ?_
        refine AW.region ?_
        refine AL.rm ?_
        refine AL.r (rd_loadN_ep rfl ag_47 rfl (Nat.le_of_ble_eq_true rfl) rfl) ?_
        refine AL.op rfl (AOpB.op (bs_set rfl ap_50 ze_47 rfl rfl ?_))
        refine AL.n ?_
        refine AL.op rfl (op_append rfl ap_50 rfl rfl (src_s rfl) (by first | omega | (simp; omega) | simp) (by first | omega | (simp; omega) | simp) ?_)
        refine AL.n ?_
        refine AL.ra ?_
        refine AL.ra ?_
        refine AL.nil ?_
        change AW _ _ _ _ _
        refine AW.ret ?_
        change ResA _ _ _ _ _
        refine res2 rfl (ResV.tmp rfl) (by first | rfl | exact setA_own rfl) (ResV.tmp rfl) rfl ?_
        refine Eq.trans (by simp [OpD.cs]) (pr2 (p := putR m o) (m := m ++ [o]) (m' := m ++ [o]) (c' := 0) (e := by unfold putR; rw [if_neg (by simp_all), if_neg (fun q => absurd q.1 (by omega)), if_neg (by omega), if_neg (by omega), if_neg (by omega)]) (c := 0) rfl rfl)
     ·skip
      refine AL.n ?_
      refine AL.rf ?_
      refine AL.rf ?_
      refine AL.rf ?_
      refine AL.rf ?_
      refine AL.rf ?_
      refine AL.rf ?_
      refine AL.rf ?_
      refine AL.rf ?_
      refine AL.rf ?_
      refine AL.rf ?_
      refine AL.rf ?_
      refine AL.r (rd_pick_f rfl rfl rfl) ?_
      refine AL.nil ?_
      change AW _ _ _ _ _
      refine AW.cond_f rfl ?_
      refine AW.skip ?_
      change AW _ _ _ _ _
      refine AW.seq ?_
      refine AW.seq ?_
      refine AW.region ?_
      refine AL.rm ?_
      refine AL.r (rd_len_sl rfl el_50 rfl) ?_
      refine AL.r (rd_bin rfl rfl rfl (fun _ => rfl)) ?_
      refine AL.nil ?_
      change AW _ _ _ _ _
      refine AW.cd rfl (fun h50 => ?_) (fun h50 => ?_)
      ·skip
       refine AW.seq ?_
       refine AW.region ?_
       refine AL.rm ?_
       refine AL.ra ?_
       refine AL.ra ?_
       refine AL.nil ?_
       change AW _ _ _ _ _
       refine AW.ret ?_
       change ResA _ _ _ _ _
       refine res2 rfl (ResV.tmp rfl) rfl (ResV.tmp rfl) rfl ?_
       exact pr2 (p := putR m o) (m' := m) (c' := 9) (by unfold putR; rw [if_neg (by simp_all), if_neg (fun q => absurd q.1 (by omega)), if_neg (by omega), if_neg (by omega), if_pos (by omega)]) rfl rfl
      ·skip
       refine AW.skip ?_
       change AW _ _ _ _ _
       refine AW.seq ?_
       refine AW.region ?_
       have hml : m.length ≤ 399 := (by omega)
       refine AL.op rfl (AOpB.op (bs_own 1 rfl ap_50 ze_47 rfl rfl rfl ?_))
       refine AL.n ?_
       refine AL.rm ?_
       refine AL.op rfl (op_append rfl ap_50 rfl rfl (src_s rfl) (by first | omega | (simp; omega) | simp) (by first | omega | (simp; omega) | simp) ?_)
       refine AL.n ?_
       refine AL.ra ?_
       refine AL.nil ?_
       change AW _ _ _ _ _
       refine AW.seq ?_
       refine AW.region ?_
       refine AL.rm ?_
       refine AL.r (rd_loadN_ep rfl ag_47 rfl (Nat.le_of_ble_eq_true rfl) rfl) ?_
       refine AL.op rfl (AOpB.op (bs_set rfl ap_50 ze_47 rfl rfl ?_))
       refine AL.n ?_
       refine AL.op rfl (op_append rfl ap_50 rfl rfl (src_s rfl) (by first | omega | (simp; omega) | simp) (by first | omega | (simp; omega) | simp) ?_)
       refine AL.n ?_
       refine AL.ra ?_
       refine AL.ra ?_
       refine AL.nil ?_
       change AW _ _ _ _ _
       refine AW.ret ?_
       change ResA _ _ _ _ _
       refine res2 rfl (ResV.tmp rfl) (by first | rfl | exact setA_own rfl) (ResV.tmp rfl) rfl ?_
       refine Eq.trans (by simp [OpD.cs]) (pr2 (p := putR m o) (m := m ++ [o]) (m' := m ++ [o]) (c' := 0) (e := by unfold putR; rw [if_neg (by simp_all), if_neg (fun q => absurd q.1 (by omega)), if_neg (by omega), if_neg (by omega), if_neg (by omega)]) (c := 0) rfl rfl)
def insO (out : List OpD) (o : OpD) : List OpD := out.takeWhile (fun x => lessT x.id o.id) ++ o :: out.dropWhile (fun x => lessT x.id o.id)
def sortO (l : List OpD) : List OpD := l.foldl insO []
theorem ins_at {out : List OpD} {o : OpD} {k : Nat} (hk : k ≤ out.length) (h : ∀ i (hi : i < out.length), i < k → lessT out[i].id o.id = true) (h2 : ∀ hk : k < out.length, lessT out[k].id o.id = false) : insO out o = out.take k ++ o :: out.drop k := by
  induction out generalizing k with
  | nil => simp [insO]
  | cons x out ih =>
    cases k with
    | zero =>
      have := h2 (by simp)
      simp only [List.getElem_cons_zero] at this
      simp [insO, List.takeWhile_cons, List.dropWhile_cons, this]
    | succ k =>
      have h0 := h 0 (by simp) (by omega)
      simp only [List.getElem_cons_zero] at h0
      have := ih (k := k) (by simpa using hk) (fun i hi hik => by have := h (i + 1) (by simp; omega) (by omega); simpa using this) (fun hk' => by have := h2 (by simp; omega); simpa using this)
      simp only [insO, List.takeWhile_cons, List.dropWhile_cons, h0, if_true, List.cons_append, List.take_succ_cons, List.drop_succ_cons] at this ⊢
      rw [this]
theorem ins_len (out : List OpD) (o : OpD) : (insO out o).length = out.length + 1 := by
  have := congrArg List.length (List.takeWhile_append_dropWhile (p := fun x : OpD => lessT x.id o.id) (l := out))
  unfold insO
  simp only [List.length_append, List.length_cons] at *
  omega
theorem sort_len (l : List OpD) : (sortO l).length = l.length := by
  have : ∀ (l : List OpD) (b : List OpD), (l.foldl insO b).length = b.length + l.length := by
    intro l
    induction l with
    | nil => intro b; simp
    | cons x l ih => intro b; rw [List.foldl_cons, ih, ins_len]; simp; omega
  rw [sortO, this]; simp
theorem ins_cs {out : List OpD} {x : OpD} {k : Nat} (h : insO out x = out.take k ++ x :: out.drop k) : [] ++ List.map OpD.cs (List.take k out) ++ [[AI x.id.rep, AI x.id.n, AI x.schema.rep, AI x.schema.n, AI x.time, AS x.cart, AI x.kind, AS x.item, AI x.at_.scope, AS x.at_.group, AS x.at_.name, AI x.delta, AB x.has, AS x.text, .sl (x.drops.map TagD.cs)]] ++ List.map OpD.cs (List.drop k (List.take out.length out)) = (insO out x).map OpD.cs := by rw [h]; simp [OpD.cs]
set_option maxHeartbeats 2000000 in
theorem rsorted_c (l : List OpD) (hl : l.length ≤ 100000) : AC Try.prog 34 [.sl (l.map OpD.cs)] (fun x => x = .s (.sl ((sortO l).map OpD.cs))) := by
  refine AC.of' 50 6 Try.func34 rfl ?_
  change AW _ _ _ _ [TK.mk 0 .off, TK.mk 0 .off, TK.mk 0 .off, TK.mk 0 .off, TK.mk 0 .off, TK.mk 0 .off]
  refine AW.seq ?_
  refine AW.region ?_
  refine AL.ra ?_
  refine AL.nil ?_
  change AW _ _ _ _ _
  refine AW.seq ?_
  refine AW.region ?_
  refine AL.op rfl (AOpB.op (bs_own 0 rfl ap_50 ze_47 rfl rfl rfl ?_))
  refine AL.n ?_
  refine AL.settle 7 rfl rfl (by first | rfl | exact cont_owM _ _ _ _) ?_
  refine AL.no ?_
  refine AL.ra ?_
  refine AL.nil ?_
  change AW _ _ _ _ _
  refine AW.seq ?_
  refine AW.seq ?_
  refine AW.region ?_
  refine AL.ra ?_
  refine AL.nil ?_
  change AW _ _ _ _ _
  refine AW.block ?_
  refine AW.loopM (ι := Nat × List OpD) [5, 6, 8, 9, 10, 11, 12, 13, 14, 15, 16, 17, 18, 19, 20, 21, 22, 23, 24, 25, 26, 27, 28, 29, 30, 31, 32, 33, 34, 35, 36, 37, 38, 39, 40, 41, 42, 43, 44, 45, 46, 47, 48, 49] (fun ⟨j, out⟩ => [(4, AI (j : Int)), (3, .sl (out.map OpD.cs))]) [1, 2, 3, 4, 5] (fun ⟨j, out⟩ => []) (fun ⟨j, out⟩ => j ≤ l.length ∧ out = sortO (l.take j)) (fun ⟨j, out⟩ => l.length - j) ⟨0, []⟩ (⟨Nat.zero_le _, rfl⟩) (by simp only [anys, upds, offs, List.set_cons_zero, List.set_cons_succ]; repeat (first | exact Wk.nil | refine Wk.same ?_ | refine Wk.any ?_)) (by simp only [anys, upds, offs, List.set_cons_zero, List.set_cons_succ]; repeat (first | exact Sk.nil _ | refine Sk.same _ ?_ | refine Sk.scr _ (by decide) ?_)) ?_
  rintro ⟨j, out⟩ gs hJ
  refine AW.norm (by simp only [anys, upds, offs, List.set_cons_zero, List.set_cons_succ]; rfl) (by (try simp only [anys, upds, offs, List.set_cons_zero, List.set_cons_succ]); (try rfl)) ?_
  obtain ⟨hj, hout⟩ := hJ
  have hol : out.length = j := (by rw [hout, sort_len, List.length_take]; omega)
  refine AW.seq ?_
  refine AW.seq ?_
  refine AW.region ?_
  refine AL.rm ?_
  refine AL.rm ?_
  refine AL.r (rd_len_sl rfl el_50 rfl) ?_
  refine AL.r (rd_bin rfl rfl rfl (fun _ => rfl)) ?_
  refine AL.nil ?_
  change AW _ _ _ _ _
  refine AW.cd rfl (fun h11 => ?_) (fun h11 => ?_)
  ·skip
   refine AW.skip ?_
   change AW _ _ _ _ _
   refine AW.seq ?_
   refine AW.block ?_
   refine AW.seq ?_
   refine AW.region ?_
   refine AL.ra ?_
   refine AL.nil ?_
   change AW _ _ _ _ _
   refine AW.seq ?_
   refine AW.block ?_
   refine AW.loopM (ι := Nat) [14, 15, 16, 17, 18, 19, 20, 21, 22, 23, 24, 25, 26, 27, 28, 29, 30, 31, 32] (fun k => [(5, AI (k : Int))]) [] (fun k => []) (fun k => k ≤ out.length ∧ ∀ i (hi : i < out.length), i < k → lessT out[i].id (l[j]'(by omega)).id = true) (fun k => out.length - k) 0 (⟨by omega, fun i _ hi => absurd hi (by omega)⟩) (by simp only [anys, upds, offs, List.set_cons_zero, List.set_cons_succ]; repeat (first | exact Wk.nil | refine Wk.same ?_ | refine Wk.any ?_)) (by simp only [anys, upds, offs, List.set_cons_zero, List.set_cons_succ]; repeat (first | exact Sk.nil _ | refine Sk.same _ ?_ | refine Sk.scr _ (by decide) ?_)) ?_
   rintro k gs hJ
   refine AW.norm (by simp only [anys, upds, offs, List.set_cons_zero, List.set_cons_succ]; rfl) (by (try simp only [anys, upds, offs, List.set_cons_zero, List.set_cons_succ]); (try rfl)) ?_
   obtain ⟨hk, hok⟩ := hJ
   refine AW.seq ?_
   refine AW.seq ?_
   refine AW.draw (by kernel_rfl) ?_
   refine AD.r 0 rfl (rd_move rfl rfl) rfl ?_
   refine AD.r 1 rfl (rd_move rfl rfl) rfl ?_
   refine AD.r 2 rfl (rd_len_sl rfl el_50 rfl) rfl ?_
   refine AD.r 3 rfl (rd_bin rfl rfl rfl (fun _ => rfl)) rfl ?_
   refine AD.r 4 rfl (rd_move rfl rfl) rfl ?_
   refine AD.fk (d := 18) rfl (fun h18 => ?_) (fun h18 => ?_)
   ·skip
    refine AD.n ?_
    refine AD.r 5 rfl (rd_move rfl rfl) ⟨_, _, rfl, rfl, rfl⟩ ?_
    refine AD.r 6 rfl (rd_move rfl rfl) ⟨_, _, rfl, rfl, rfl⟩ ?_
    refine AD.r 7 rfl (rd_iaddr_sl rfl el_50 rfl rfl rfl (get_mapA (by omega)) rfl) ⟨_, _, rfl, rfl, rfl⟩ ?_
    refine AD.r 8 rfl (rd_faddr_ep rfl fo_47_0 rfl) ⟨_, _, rfl, rfl, rfl⟩ ?_
    refine AD.r 9 rfl (rd_loadN_ep rfl ag_44 rfl (Nat.le_of_ble_eq_true rfl) rfl) ⟨_, _, rfl, rfl, rfl⟩ ?_
    refine AD.r 10 rfl (rd_move rfl rfl) ⟨_, _, rfl, rfl, rfl⟩ ?_
    refine AD.r 11 rfl (rd_move rfl rfl) ⟨_, _, rfl, rfl, rfl⟩ ?_
    refine AD.r 12 rfl (rd_iaddr_sl rfl el_50 rfl rfl rfl (get_mapA (by omega)) rfl) ⟨_, _, rfl, rfl, rfl⟩ ?_
    refine AD.r 13 rfl (rd_faddr_ep rfl fo_47_0 rfl) ⟨_, _, rfl, rfl, rfl⟩ ?_
    refine AD.r 14 rfl (rd_loadN_ep rfl ag_44 rfl (Nat.le_of_ble_eq_true rfl) rfl) ⟨_, _, rfl, rfl, rfl⟩ ?_
    refine AD.move 15 rfl (by kernel_rfl) ⟨_, _, rfl, rfl, rfl⟩ (op_call (rtless_c (out[k]'(by omega)).id (l[j]'(by omega)).id) rfl (by kernel_rfl) rfl (none) ?_)
    rintro r rfl
    refine AD.n ?_
    refine AD.r 16 rfl (rd_pick_t rfl rfl rfl) rfl ?_
    refine AD.done (by kernel_rfl) ?_
    change AW _ _ _ _ _
    refine AW.cd rfl (fun h30 => ?_) (fun h30 => ?_)
    ·skip
     refine AW.skip ?_
     change AW _ _ _ _ _
     refine AW.block ?_
     refine AW.region ?_
     refine AL.rm ?_
     refine AL.r (rd_arith_add rfl rfl rfl (by first | exact IntWalk.i64_in _ (by omega) | rfl)) ?_
     refine AL.ra ?_
     refine AL.nil ?_
     refine ⟨k + 1, ?_, by first | omega | (simp only []; omega), ?_, ?_⟩
     ·exact ⟨by omega, all_nextL (p := fun (y : OpD) => lessT y.id (l[j]'(by omega)).id = true) (by omega) hok (by assumption)⟩
     ·simp only [anys, upds, offs, List.set_cons_zero, List.set_cons_succ]; repeat (first | exact Wk.nil | refine Wk.same ?_ | refine Wk.any ?_)
     ·simp only [anys, upds, offs, List.set_cons_zero, List.set_cons_succ]; repeat (first | exact Sk.nil _ | refine Sk.same _ ?_ | refine Sk.scr _ (by decide) ?_)
    ·skip
     refine AW.exit ?_
     change AW _ _ _ _ _
     refine AW.seq ?_
     refine AW.region ?_
     have hins : insO out (l[j]'(by omega)) = out.take k ++ (l[j]'(by omega)) :: out.drop k := ins_at hk hok (fun hk' => by first | (exfalso; omega) | assumption)
     refine AL.op rfl (AOpB.op (bs_own 1 rfl ap_50 ze_47 rfl rfl rfl ?_))
     refine AL.n ?_
     refine AL.rm ?_
     refine AL.rm ?_
     refine AL.r (rd_slice_sl rfl el_50 rfl (by first | exact csS_one | (intro cs hcs; obtain ⟨_, _, rfl⟩ := List.mem_map.1 hcs; rfl)) rfl ⟨_, _, rfl, rfl⟩ (by first | omega | (simp only [List.length_map]; omega)) (by first | omega | (simp only [List.length_map]; omega))) ?_
     refine AL.op rfl (op_append rfl ap_50 rfl rfl (src_s rfl) (by simp; omega) (by simp; omega) ?_)
     refine AL.n ?_
     refine AL.ra ?_
     refine AL.nil ?_
     change AW _ _ _ _ _
     refine AW.seq ?_
     refine AW.region ?_
     refine AL.rm ?_
     refine AL.rm ?_
     refine AL.rm ?_
     refine AL.r (rd_iaddr_sl rfl el_50 rfl rfl rfl (get_mapA (by omega)) rfl) ?_
     refine AL.r (rd_loadN_ep rfl ag_47 rfl (Nat.le_of_ble_eq_true rfl) rfl) ?_
     refine AL.op rfl (AOpB.op (bs_set rfl ap_50 ze_47 rfl rfl ?_))
     refine AL.n ?_
     refine AL.op rfl (op_append rfl ap_50 rfl rfl (src_s rfl) (by simp; omega) (by simp; omega) ?_)
     refine AL.n ?_
     refine AL.ra ?_
     refine AL.nil ?_
     change AW _ _ _ _ _
     refine AW.region ?_
     refine AL.rm ?_
     refine AL.rm ?_
     refine AL.rm ?_
     refine AL.r (rd_slice_sl rfl el_50 rfl (by intro cs hcs; obtain ⟨_, _, rfl⟩ := List.mem_map.1 hcs; rfl) ⟨_, _, rfl, rfl⟩ rfl (by first | omega | (simp only [List.length_map]; omega)) (by first | omega | (simp only [List.length_map]; omega))) ?_
     refine AL.op rfl (op_append rfl ap_50 rfl rfl (src_s rfl) (by simp; omega) (by simp; omega) ?_)
     refine AL.n ?_
     rw [ins_cs hins]
     refine AL.settle 49 rfl rfl (by first | rfl | exact cont_owM _ _ _ _) ?_
     refine AL.no ?_
     refine AL.ra ?_
     refine AL.nil ?_
     change AW _ _ _ _ _
     refine AW.region ?_
     refine AL.rm ?_
     refine AL.r (rd_arith_add rfl rfl rfl (by first | exact IntWalk.i64_in _ (by omega) | rfl)) ?_
     refine AL.ra ?_
     refine AL.nil ?_
     refine ⟨⟨j + 1, insO out (l[j]'(by omega))⟩, ?_, by first | omega | (simp only []; omega), ?_, ?_⟩
     ·exact ⟨by omega, by rw [sortO, fold_next (by omega)]; exact congrArg (fun q => insO q _) hout⟩
     ·simp only [anys, upds, offs, List.set_cons_zero, List.set_cons_succ]; repeat (first | exact Wk.nil | refine Wk.same ?_ | refine Wk.any ?_)
     ·simp only [anys, upds, offs, List.set_cons_zero, List.set_cons_succ]; repeat (first | exact Sk.nil _ | refine Sk.same _ ?_ | refine Sk.scr _ (by decide) ?_)
   ·skip
    refine AD.n ?_
    refine AD.s 5 rfl ⟨_, _, rfl, rfl, rfl⟩ ?_
    refine AD.s 6 rfl ⟨_, _, rfl, rfl, rfl⟩ ?_
    refine AD.s 7 rfl ⟨_, _, rfl, rfl, rfl⟩ ?_
    refine AD.s 8 rfl ⟨_, _, rfl, rfl, rfl⟩ ?_
    refine AD.s 9 rfl ⟨_, _, rfl, rfl, rfl⟩ ?_
    refine AD.s 10 rfl ⟨_, _, rfl, rfl, rfl⟩ ?_
    refine AD.s 11 rfl ⟨_, _, rfl, rfl, rfl⟩ ?_
    refine AD.s 12 rfl ⟨_, _, rfl, rfl, rfl⟩ ?_
    refine AD.s 13 rfl ⟨_, _, rfl, rfl, rfl⟩ ?_
    refine AD.s 14 rfl ⟨_, _, rfl, rfl, rfl⟩ ?_
    refine AD.s 15 rfl ⟨_, _, rfl, rfl, rfl⟩ ?_
    refine AD.r 16 rfl (rd_pick_f rfl rfl rfl) rfl ?_
    refine AD.done (by kernel_rfl) ?_
    change AW _ _ _ _ _
    refine AW.cond_f rfl ?_
    refine AW.exit ?_
    change AW _ _ _ _ _
    refine AW.seq ?_
    refine AW.region ?_
    have hins : insO out (l[j]'(by omega)) = out.take k ++ (l[j]'(by omega)) :: out.drop k := ins_at hk hok (fun hk' => by first | (exfalso; omega) | assumption)
    refine AL.op rfl (AOpB.op (bs_own 1 rfl ap_50 ze_47 rfl rfl rfl ?_))
    refine AL.n ?_
    refine AL.rm ?_
    refine AL.rm ?_
    refine AL.r (rd_slice_sl rfl el_50 rfl (by first | exact csS_one | (intro cs hcs; obtain ⟨_, _, rfl⟩ := List.mem_map.1 hcs; rfl)) rfl ⟨_, _, rfl, rfl⟩ (by first | omega | (simp only [List.length_map]; omega)) (by first | omega | (simp only [List.length_map]; omega))) ?_
    refine AL.op rfl (op_append rfl ap_50 rfl rfl (src_s rfl) (by simp; omega) (by simp; omega) ?_)
    refine AL.n ?_
    refine AL.ra ?_
    refine AL.nil ?_
    change AW _ _ _ _ _
    refine AW.seq ?_
    refine AW.region ?_
    refine AL.rm ?_
    refine AL.rm ?_
    refine AL.rm ?_
    refine AL.r (rd_iaddr_sl rfl el_50 rfl rfl rfl (get_mapA (by omega)) rfl) ?_
    refine AL.r (rd_loadN_ep rfl ag_47 rfl (Nat.le_of_ble_eq_true rfl) rfl) ?_
    refine AL.op rfl (AOpB.op (bs_set rfl ap_50 ze_47 rfl rfl ?_))
    refine AL.n ?_
    refine AL.op rfl (op_append rfl ap_50 rfl rfl (src_s rfl) (by simp; omega) (by simp; omega) ?_)
    refine AL.n ?_
    refine AL.ra ?_
    refine AL.nil ?_
    change AW _ _ _ _ _
    refine AW.region ?_
    refine AL.rm ?_
    refine AL.rm ?_
    refine AL.rm ?_
    refine AL.r (rd_slice_sl rfl el_50 rfl (by intro cs hcs; obtain ⟨_, _, rfl⟩ := List.mem_map.1 hcs; rfl) ⟨_, _, rfl, rfl⟩ rfl (by first | omega | (simp only [List.length_map]; omega)) (by first | omega | (simp only [List.length_map]; omega))) ?_
    refine AL.op rfl (op_append rfl ap_50 rfl rfl (src_s rfl) (by simp; omega) (by simp; omega) ?_)
    refine AL.n ?_
    rw [ins_cs hins]
    refine AL.settle 49 rfl rfl (by first | rfl | exact cont_owM _ _ _ _) ?_
    refine AL.no ?_
    refine AL.ra ?_
    refine AL.nil ?_
    change AW _ _ _ _ _
    refine AW.region ?_
    refine AL.rm ?_
    refine AL.r (rd_arith_add rfl rfl rfl (by first | exact IntWalk.i64_in _ (by omega) | rfl)) ?_
    refine AL.ra ?_
    refine AL.nil ?_
    refine ⟨⟨j + 1, insO out (l[j]'(by omega))⟩, ?_, by first | omega | (simp only []; omega), ?_, ?_⟩
    ·exact ⟨by omega, by rw [sortO, fold_next (by omega)]; exact congrArg (fun q => insO q _) hout⟩
    ·simp only [anys, upds, offs, List.set_cons_zero, List.set_cons_succ]; repeat (first | exact Wk.nil | refine Wk.same ?_ | refine Wk.any ?_)
    ·simp only [anys, upds, offs, List.set_cons_zero, List.set_cons_succ]; repeat (first | exact Sk.nil _ | refine Sk.same _ ?_ | refine Sk.scr _ (by decide) ?_)
  ·skip
   refine AW.exit ?_
   change AW _ _ _ _ _
   refine AW.seq ?_
   refine AW.region ?_
   refine AL.rm ?_
   refine AL.ra ?_
   refine AL.nil ?_
   change AW _ _ _ _ _
   refine AW.ret ?_
   change ResA _ _ _ _ _
   refine res1 rfl (ResV.tmp rfl) rfl ?_
   rw [hout, List.take_of_length_le (by omega)]
end Go.Proofs.Ytfjnkhanndkpfaa
