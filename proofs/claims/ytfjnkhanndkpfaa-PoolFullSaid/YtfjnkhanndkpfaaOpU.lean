/- Whether an op is right: the reference, walked over abstract states. No conditions. -/
import Derived.Test.YtfjnkhanndkpfaaOpT
namespace Go.Proofs.Ytfjnkhanndkpfaa
set_option linter.unusedSimpArgs false
set_option linter.unusedVariables false
set_option maxRecDepth 100000
open Go.RowKit

set_option maxHeartbeats 2000000 in
theorem oright_r (o : OpD) : AC Try.prog 72 [o.av] (fun r => r = .s (AB (rightO o))) := by
  rw [← right_same]
  change AC _ _ [.ag [AI o.id.rep, AI o.id.n, AI o.schema.rep, AI o.schema.n, AI o.time, AS o.cart, AI o.kind, AS o.item, AI o.at_.scope, AS o.at_.group, AS o.at_.name, AI o.delta, AB o.has, AS o.text, .sl (o.drops.map TagD.cs)]] _
  refine AC.of' 157 1 Try.func72 rfl ?_
  change AW _ _ _ _ [TK.mk 0 .off]
  refine AW.seq ?_
  refine AW.region ?_
  refine AL.op rfl (AOpB.op (op_box 0 rfl rfl rfl rfl rfl ?_))
  refine AL.n ?_
  refine AL.ra ?_
  refine AL.nil ?_
  change AW _ _ _ _ _
  refine AW.join (ι := Unit) [2, 3, 4, 5, 6, 7, 8, 9, 10, 11, 12, 13, 14, 15, 16, 17, 18, 19, 20, 21, 22, 23, 24, 25, 26, 27, 28, 29, 30, 31, 32, 33, 34, 35, 36, 37, 38, 39] (fun u39 => []) [] (fun u39 => []) (fun u39 => tagB o.id = true ∧ (decide (o.schema = ⟨0, 0⟩) || tagB o.schema) = true ∧ 1 ≤ o.time ∧ o.time ≤ 1099511627776 ∧ nameB o.cart = true ∧ dropsB o = true) ?_ ?_
  ·skip
   refine AW.seq ?_
   refine AW.region ?_
   refine AL.r (rd_faddr_bx rfl fo_47_0 rfl rfl ⟨_, _, rfl⟩) ?_
   refine AL.r (rd_loadN_bx rfl ag_44 rfl rfl (Nat.le_of_ble_eq_true rfl) rfl) ?_
   refine AL.op rfl (AOpB.op (op_call (rtag_c o.id) rfl (by kernel_rfl) rfl (none) ?_))
   rintro r rfl
   refine AL.n ?_
   refine AL.r (rd_un rfl rfl (fun _ => rfl)) ?_
   refine AL.rm ?_
   refine AL.fk (d := 7) rfl (fun h7 => ?_) (fun h7 => ?_)
   ·skip
    refine AL.n ?_
    refine AL.rf ?_
    refine AL.rf ?_
    refine AL.rf ?_
    refine AL.rf ?_
    refine AL.rf ?_
    refine AL.ru ?_
    refine AL.ru ?_
    refine AL.ru ?_
    refine AL.ru ?_
    refine AL.rf ?_
    refine AL.r (rd_pick_t rfl rfl rfl) ?_
    refine AL.rm ?_
    refine AL.rf ?_
    refine AL.rf ?_
    refine AL.rf ?_
    refine AL.r (rd_pick_t rfl rfl rfl) ?_
    refine AL.rm ?_
    refine AL.rf ?_
    refine AL.rf ?_
    refine AL.rf ?_
    refine AL.r (rd_pick_t rfl rfl rfl) ?_
    refine AL.rm ?_
    refine AL.rf ?_
    refine AL.rf ?_
    refine AL.rf ?_
    refine AL.rf ?_
    refine AL.r (rd_pick_t rfl rfl rfl) ?_
    refine AL.rm ?_
    refine AL.rf ?_
    refine AL.rf ?_
    refine AL.rf ?_
    refine AL.r (rd_pick_t rfl rfl rfl) ?_
    refine AL.nil ?_
    change AW _ _ _ _ _
    refine AW.cond_t rfl ?_
    refine AW.seq ?_
    refine AW.region ?_
    refine AL.ra ?_
    refine AL.nil ?_
    change AW _ _ _ _ _
    refine AW.ret ?_
    change ResA _ _ _ _ _
    refine res1 rfl (ResV.tmp rfl) rfl ?_
    refine congrArg (fun b => RS.s (AB b)) ?_
    grind [rightR, List.isEmpty_iff, List.length_eq_zero_iff]
   ·skip
    refine AL.n ?_
    refine AL.ro (rd_faddr_bx rfl fo_47_1 rfl rfl ⟨_, _, rfl⟩) ?_
    refine AL.ro (rd_loadN_bx rfl ag_44 rfl rfl (Nat.le_of_ble_eq_true rfl) rfl) ?_
    refine AL.ro (rd_build rfl pl_44 ze_44 rfl rfl) ?_
    refine AL.ro (rd_ne_Tag rfl rfl rfl) ?_
    refine AL.ro (rd_move rfl rfl) ?_
    refine AL.fk (d := 12) rfl (fun h12 => ?_) (fun h12 => ?_)
    ·skip
     refine AL.n ?_
     refine AL.ro (rd_faddr_bx rfl fo_47_1 rfl rfl ⟨_, _, rfl⟩) ?_
     refine AL.ro (rd_loadN_bx rfl ag_44 rfl rfl (Nat.le_of_ble_eq_true rfl) rfl) ?_
     refine AL.on rfl rfl rfl (AOpB.op (op_call (rtag_c o.schema) rfl (by kernel_rfl) rfl (none) ?_))
     rintro r rfl
     refine AL.n ?_
     refine AL.ro (rd_un rfl rfl (fun _ => rfl)) ?_
     refine AL.ro (rd_pick_t rfl rfl rfl) ?_
     refine AL.r (rd_pick_f rfl rfl rfl) ?_
     refine AL.rm ?_
     refine AL.fk (d := 19) rfl (fun h19 => ?_) (fun h19 => ?_)
     ·skip
      refine AL.n ?_
      refine AL.rf ?_
      refine AL.rf ?_
      refine AL.rf ?_
      refine AL.r (rd_pick_t rfl rfl rfl) ?_
      refine AL.rm ?_
      refine AL.rf ?_
      refine AL.rf ?_
      refine AL.rf ?_
      refine AL.r (rd_pick_t rfl rfl rfl) ?_
      refine AL.rm ?_
      refine AL.rf ?_
      refine AL.rf ?_
      refine AL.rf ?_
      refine AL.rf ?_
      refine AL.r (rd_pick_t rfl rfl rfl) ?_
      refine AL.rm ?_
      refine AL.rf ?_
      refine AL.rf ?_
      refine AL.rf ?_
      refine AL.r (rd_pick_t rfl rfl rfl) ?_
      refine AL.nil ?_
      change AW _ _ _ _ _
      refine AW.cond_t rfl ?_
      refine AW.seq ?_
      refine AW.region ?_
      refine AL.ra ?_
      refine AL.nil ?_
      change AW _ _ _ _ _
      refine AW.ret ?_
      change ResA _ _ _ _ _
      refine res1 rfl (ResV.tmp rfl) rfl ?_
      refine congrArg (fun b => RS.s (AB b)) ?_
      grind [rightR, List.isEmpty_iff, List.length_eq_zero_iff]
     ·skip
      refine AL.n ?_
      refine AL.ro (rd_faddr_bx rfl fo_47_2 rfl rfl ⟨_, _, rfl⟩) ?_
      refine AL.ro (rd_load_bx rfl ag_2 rfl rfl rfl) ?_
      refine AL.ro (rd_bin rfl rfl rfl (fun _ => rfl)) ?_
      refine AL.r (rd_pick_f rfl rfl rfl) ?_
      refine AL.rm ?_
      refine AL.fk (d := 24) rfl (fun h24 => ?_) (fun h24 => ?_)
      ·skip
       refine AL.n ?_
       refine AL.rf ?_
       refine AL.rf ?_
       refine AL.rf ?_
       refine AL.r (rd_pick_t rfl rfl rfl) ?_
       refine AL.rm ?_
       refine AL.rf ?_
       refine AL.rf ?_
       refine AL.rf ?_
       refine AL.rf ?_
       refine AL.r (rd_pick_t rfl rfl rfl) ?_
       refine AL.rm ?_
       refine AL.rf ?_
       refine AL.rf ?_
       refine AL.rf ?_
       refine AL.r (rd_pick_t rfl rfl rfl) ?_
       refine AL.nil ?_
       change AW _ _ _ _ _
       refine AW.cond_t rfl ?_
       refine AW.seq ?_
       refine AW.region ?_
       refine AL.ra ?_
       refine AL.nil ?_
       change AW _ _ _ _ _
       refine AW.ret ?_
       change ResA _ _ _ _ _
       refine res1 rfl (ResV.tmp rfl) rfl ?_
       refine congrArg (fun b => RS.s (AB b)) ?_
       grind [rightR, List.isEmpty_iff, List.length_eq_zero_iff]
      ·skip
       refine AL.n ?_
       refine AL.ro (rd_faddr_bx rfl fo_47_2 rfl rfl ⟨_, _, rfl⟩) ?_
       refine AL.ro (rd_load_bx rfl ag_2 rfl rfl rfl) ?_
       refine AL.ro (rd_bin rfl rfl rfl (fun _ => rfl)) ?_
       refine AL.r (rd_pick_f rfl rfl rfl) ?_
       refine AL.rm ?_
       refine AL.fk (d := 29) rfl (fun h29 => ?_) (fun h29 => ?_)
       ·skip
        refine AL.n ?_
        refine AL.rf ?_
        refine AL.rf ?_
        refine AL.rf ?_
        refine AL.rf ?_
        refine AL.r (rd_pick_t rfl rfl rfl) ?_
        refine AL.rm ?_
        refine AL.rf ?_
        refine AL.rf ?_
        refine AL.rf ?_
        refine AL.r (rd_pick_t rfl rfl rfl) ?_
        refine AL.nil ?_
        change AW _ _ _ _ _
        refine AW.cond_t rfl ?_
        refine AW.seq ?_
        refine AW.region ?_
        refine AL.ra ?_
        refine AL.nil ?_
        change AW _ _ _ _ _
        refine AW.ret ?_
        change ResA _ _ _ _ _
        refine res1 rfl (ResV.tmp rfl) rfl ?_
        refine congrArg (fun b => RS.s (AB b)) ?_
        grind [rightR, List.isEmpty_iff, List.length_eq_zero_iff]
       ·skip
        refine AL.n ?_
        refine AL.ro (rd_faddr_bx rfl fo_47_3 rfl rfl ⟨_, _, rfl⟩) ?_
        refine AL.ro (rd_load_bx rfl ag_9 rfl rfl rfl) ?_
        refine AL.on rfl rfl rfl (AOpB.op (op_call (rname_c o.cart) rfl (by kernel_rfl) rfl (none) ?_))
        rintro r rfl
        refine AL.n ?_
        refine AL.ro (rd_un rfl rfl (fun _ => rfl)) ?_
        refine AL.r (rd_pick_f rfl rfl rfl) ?_
        refine AL.rm ?_
        refine AL.fk (d := 35) rfl (fun h35 => ?_) (fun h35 => ?_)
        ·skip
         refine AL.n ?_
         refine AL.rf ?_
         refine AL.rf ?_
         refine AL.rf ?_
         refine AL.r (rd_pick_t rfl rfl rfl) ?_
         refine AL.nil ?_
         change AW _ _ _ _ _
         refine AW.cond_t rfl ?_
         refine AW.seq ?_
         refine AW.region ?_
         refine AL.ra ?_
         refine AL.nil ?_
         change AW _ _ _ _ _
         refine AW.ret ?_
         change ResA _ _ _ _ _
         refine res1 rfl (ResV.tmp rfl) rfl ?_
         refine congrArg (fun b => RS.s (AB b)) ?_
         grind [rightR, List.isEmpty_iff, List.length_eq_zero_iff]
        ·skip
         refine AL.n ?_
         refine AL.ro (rd_loadN_bx rfl ag_47 rfl rfl (Nat.le_of_ble_eq_true rfl) rfl) ?_
         refine AL.on rfl rfl rfl (AOpB.op (op_call (rdrops_c o) rfl (by kernel_rfl) rfl (none) ?_))
         rintro r rfl
         refine AL.n ?_
         refine AL.ro (rd_un rfl rfl (fun _ => rfl)) ?_
         refine AL.r (rd_pick_f rfl rfl rfl) ?_
         refine AL.nil ?_
         change AW _ _ _ _ _
         refine AW.cd rfl (fun h39 => ?_) (fun h39 => ?_)
         ·skip
          refine AW.seq ?_
          refine AW.region ?_
          refine AL.ra ?_
          refine AL.nil ?_
          change AW _ _ _ _ _
          refine AW.ret ?_
          change ResA _ _ _ _ _
          refine res1 rfl (ResV.tmp rfl) rfl ?_
          refine congrArg (fun b => RS.s (AB b)) ?_
          grind [rightR, List.isEmpty_iff, List.length_eq_zero_iff]
         ·skip
          refine AW.skip ?_
          refine ⟨(), by refine ⟨by assumption, ?_, by omega, by omega, by assumption, by assumption⟩; simp_all [tagD_iff], (by simp only [anys, upds, offs, List.set_cons_zero, List.set_cons_succ]; repeat (first | exact Wk.nil | refine Wk.same ?_ | refine Wk.any ?_)), (by simp only [anys, upds, offs, List.set_cons_zero, List.set_cons_succ]; repeat (first | exact Sk.nil _ | refine Sk.same _ ?_ | refine Sk.scr _ (by decide) ?_))⟩
    ·skip
     refine AL.n ?_
     refine AL.rf ?_
     refine AL.rf ?_
     refine AL.rf ?_
     refine AL.rf ?_
     refine AL.ro (rd_pick_f rfl rfl rfl) ?_
     refine AL.r (rd_pick_f rfl rfl rfl) ?_
     refine AL.rm ?_
     refine AL.ro (rd_faddr_bx rfl fo_47_2 rfl rfl ⟨_, _, rfl⟩) ?_
     refine AL.ro (rd_load_bx rfl ag_2 rfl rfl rfl) ?_
     refine AL.ro (rd_bin rfl rfl rfl (fun _ => rfl)) ?_
     refine AL.r (rd_pick_f rfl rfl rfl) ?_
     refine AL.rm ?_
     refine AL.fk (d := 24) rfl (fun h24 => ?_) (fun h24 => ?_)
     ·skip
      refine AL.n ?_
      refine AL.rf ?_
      refine AL.rf ?_
      refine AL.rf ?_
      refine AL.r (rd_pick_t rfl rfl rfl) ?_
      refine AL.rm ?_
      refine AL.rf ?_
      refine AL.rf ?_
      refine AL.rf ?_
      refine AL.rf ?_
      refine AL.r (rd_pick_t rfl rfl rfl) ?_
      refine AL.rm ?_
      refine AL.rf ?_
      refine AL.rf ?_
      refine AL.rf ?_
      refine AL.r (rd_pick_t rfl rfl rfl) ?_
      refine AL.nil ?_
      change AW _ _ _ _ _
      refine AW.cond_t rfl ?_
      refine AW.seq ?_
      refine AW.region ?_
      refine AL.ra ?_
      refine AL.nil ?_
      change AW _ _ _ _ _
      refine AW.ret ?_
      change ResA _ _ _ _ _
      refine res1 rfl (ResV.tmp rfl) rfl ?_
      refine congrArg (fun b => RS.s (AB b)) ?_
      grind [rightR, List.isEmpty_iff, List.length_eq_zero_iff]
     ·skip
      refine AL.n ?_
      refine AL.ro (rd_faddr_bx rfl fo_47_2 rfl rfl ⟨_, _, rfl⟩) ?_
      refine AL.ro (rd_load_bx rfl ag_2 rfl rfl rfl) ?_
      refine AL.ro (rd_bin rfl rfl rfl (fun _ => rfl)) ?_
      refine AL.r (rd_pick_f rfl rfl rfl) ?_
      refine AL.rm ?_
      refine AL.fk (d := 29) rfl (fun h29 => ?_) (fun h29 => ?_)
      ·skip
       refine AL.n ?_
       refine AL.rf ?_
       refine AL.rf ?_
       refine AL.rf ?_
       refine AL.rf ?_
       refine AL.r (rd_pick_t rfl rfl rfl) ?_
       refine AL.rm ?_
       refine AL.rf ?_
       refine AL.rf ?_
       refine AL.rf ?_
       refine AL.r (rd_pick_t rfl rfl rfl) ?_
       refine AL.nil ?_
       change AW _ _ _ _ _
       refine AW.cond_t rfl ?_
       refine AW.seq ?_
       refine AW.region ?_
       refine AL.ra ?_
       refine AL.nil ?_
       change AW _ _ _ _ _
       refine AW.ret ?_
       change ResA _ _ _ _ _
       refine res1 rfl (ResV.tmp rfl) rfl ?_
       refine congrArg (fun b => RS.s (AB b)) ?_
       grind [rightR, List.isEmpty_iff, List.length_eq_zero_iff]
      ·skip
       refine AL.n ?_
       refine AL.ro (rd_faddr_bx rfl fo_47_3 rfl rfl ⟨_, _, rfl⟩) ?_
       refine AL.ro (rd_load_bx rfl ag_9 rfl rfl rfl) ?_
       refine AL.on rfl rfl rfl (AOpB.op (op_call (rname_c o.cart) rfl (by kernel_rfl) rfl (none) ?_))
       rintro r rfl
       refine AL.n ?_
       refine AL.ro (rd_un rfl rfl (fun _ => rfl)) ?_
       refine AL.r (rd_pick_f rfl rfl rfl) ?_
       refine AL.rm ?_
       refine AL.fk (d := 35) rfl (fun h35 => ?_) (fun h35 => ?_)
       ·skip
        refine AL.n ?_
        refine AL.rf ?_
        refine AL.rf ?_
        refine AL.rf ?_
        refine AL.r (rd_pick_t rfl rfl rfl) ?_
        refine AL.nil ?_
        change AW _ _ _ _ _
        refine AW.cond_t rfl ?_
        refine AW.seq ?_
        refine AW.region ?_
        refine AL.ra ?_
        refine AL.nil ?_
        change AW _ _ _ _ _
        refine AW.ret ?_
        change ResA _ _ _ _ _
        refine res1 rfl (ResV.tmp rfl) rfl ?_
        refine congrArg (fun b => RS.s (AB b)) ?_
        grind [rightR, List.isEmpty_iff, List.length_eq_zero_iff]
       ·skip
        refine AL.n ?_
        refine AL.ro (rd_loadN_bx rfl ag_47 rfl rfl (Nat.le_of_ble_eq_true rfl) rfl) ?_
        refine AL.on rfl rfl rfl (AOpB.op (op_call (rdrops_c o) rfl (by kernel_rfl) rfl (none) ?_))
        rintro r rfl
        refine AL.n ?_
        refine AL.ro (rd_un rfl rfl (fun _ => rfl)) ?_
        refine AL.r (rd_pick_f rfl rfl rfl) ?_
        refine AL.nil ?_
        change AW _ _ _ _ _
        refine AW.cd rfl (fun h39 => ?_) (fun h39 => ?_)
        ·skip
         refine AW.seq ?_
         refine AW.region ?_
         refine AL.ra ?_
         refine AL.nil ?_
         change AW _ _ _ _ _
         refine AW.ret ?_
         change ResA _ _ _ _ _
         refine res1 rfl (ResV.tmp rfl) rfl ?_
         refine congrArg (fun b => RS.s (AB b)) ?_
         grind [rightR, List.isEmpty_iff, List.length_eq_zero_iff]
        ·skip
         refine AW.skip ?_
         refine ⟨(), by refine ⟨by assumption, ?_, by omega, by omega, by assumption, by assumption⟩; simp_all [tagD_iff], (by simp only [anys, upds, offs, List.set_cons_zero, List.set_cons_succ]; repeat (first | exact Wk.nil | refine Wk.same ?_ | refine Wk.any ?_)), (by simp only [anys, upds, offs, List.set_cons_zero, List.set_cons_succ]; repeat (first | exact Sk.nil _ | refine Sk.same _ ?_ | refine Sk.scr _ (by decide) ?_))⟩
  ·rintro u39 gs39 hJ39
   refine AW.norm (by simp only [anys, upds, offs, List.set_cons_zero, List.set_cons_succ]; rfl) (by (try simp only [anys, upds, offs, List.set_cons_zero, List.set_cons_succ]); (try rfl)) ?_
   (try dsimp only at hJ39)
   change AW _ _ _ _ _
   refine AW.seq ?_
   refine AW.seq ?_
   refine AW.region ?_
   refine AL.r (rd_faddr_bx rfl fo_47_4 rfl rfl ⟨_, _, rfl⟩) ?_
   refine AL.r (rd_load_bx rfl ag_3 rfl rfl rfl) ?_
   refine AL.r (rd_bin rfl rfl rfl (fun _ => rfl)) ?_
   refine AL.nil ?_
   change AW _ _ _ _ _
   refine AW.cd rfl (fun h42 => ?_) (fun h42 => ?_)
   ·skip
    refine AW.seq ?_
    refine AW.region ?_
    refine AL.r (rd_faddr_bx rfl fo_47_5 rfl rfl ⟨_, _, rfl⟩) ?_
    refine AL.r (rd_load_bx rfl ag_9 rfl rfl rfl) ?_
    refine AL.r (rd_seq rfl rfl rfl) ?_
    refine AL.rm ?_
    refine AL.fk (d := 46) rfl (fun h46 => ?_) (fun h46 => ?_)
    ·skip
     refine AL.n ?_
     refine AL.ro (rd_loadN_bx rfl ag_47 rfl rfl (Nat.le_of_ble_eq_true rfl) rfl) ?_
     refine AL.on rfl rfl rfl (AOpB.op (op_call (plain_c o) rfl (by kernel_rfl) rfl (none) ?_))
     rintro r rfl
     refine AL.n ?_
     refine AL.r (rd_pick_t rfl rfl rfl) ?_
     refine AL.ra ?_
     refine AL.nil ?_
     change AW _ _ _ _ _
     refine AW.ret ?_
     change ResA _ _ _ _ _
     refine res1 rfl (ResV.tmp rfl) rfl ?_
     refine congrArg (fun b => RS.s (AB b)) ?_
     grind [rightR, List.isEmpty_iff, List.length_eq_zero_iff]
    ·skip
     refine AL.n ?_
     refine AL.rf ?_
     refine AL.rf ?_
     refine AL.r (rd_pick_f rfl rfl rfl) ?_
     refine AL.ra ?_
     refine AL.nil ?_
     change AW _ _ _ _ _
     refine AW.ret ?_
     change ResA _ _ _ _ _
     refine res1 rfl (ResV.tmp rfl) rfl ?_
     refine congrArg (fun b => RS.s (AB b)) ?_
     grind [rightR, List.isEmpty_iff, List.length_eq_zero_iff]
   ·skip
    refine AW.skip ?_
    change AW _ _ _ _ _
    refine AW.seq ?_
    refine AW.seq ?_
    refine AW.region ?_
    refine AL.r (rd_faddr_bx rfl fo_47_4 rfl rfl ⟨_, _, rfl⟩) ?_
    refine AL.r (rd_load_bx rfl ag_3 rfl rfl rfl) ?_
    refine AL.r (rd_bin rfl rfl rfl (fun _ => rfl)) ?_
    refine AL.nil ?_
    change AW _ _ _ _ _
    refine AW.cd rfl (fun h52 => ?_) (fun h52 => ?_)
    ·skip
     refine AW.seq ?_
     refine AW.region ?_
     refine AL.r (rd_faddr_bx rfl fo_47_5 rfl rfl ⟨_, _, rfl⟩) ?_
     refine AL.r (rd_load_bx rfl ag_9 rfl rfl rfl) ?_
     refine AL.op rfl (AOpB.op (op_call (rname_c o.item) rfl (by kernel_rfl) rfl (none) ?_))
     rintro r rfl
     refine AL.n ?_
     refine AL.rm ?_
     refine AL.fk (d := 56) rfl (fun h56 => ?_) (fun h56 => ?_)
     ·skip
      refine AL.n ?_
      refine AL.ro (rd_loadN_bx rfl ag_47 rfl rfl (Nat.le_of_ble_eq_true rfl) rfl) ?_
      refine AL.on rfl rfl rfl (AOpB.op (op_call (plain_c o) rfl (by kernel_rfl) rfl (none) ?_))
      rintro r rfl
      refine AL.n ?_
      refine AL.r (rd_pick_t rfl rfl rfl) ?_
      refine AL.rm ?_
      refine AL.fk (d := 60) rfl (fun h60 => ?_) (fun h60 => ?_)
      ·skip
       refine AL.n ?_
       refine AL.ro (rd_faddr_bx rfl fo_47_10 rfl rfl ⟨_, _, rfl⟩) ?_
       refine AL.ro (rd_load_bx rfl ag_45 rfl rfl rfl) ?_
       refine AL.ro (rd_len_sl rfl el_45 rfl) ?_
       refine AL.ro (rd_bin rfl rfl rfl (fun _ => rfl)) ?_
       refine AL.r (rd_pick_t rfl rfl rfl) ?_
       refine AL.ra ?_
       refine AL.nil ?_
       change AW _ _ _ _ _
       refine AW.ret ?_
       change ResA _ _ _ _ _
       refine res1 rfl (ResV.tmp rfl) rfl ?_
       refine congrArg (fun b => RS.s (AB b)) ?_
       grind [rightR, List.isEmpty_iff, List.length_eq_zero_iff]
      ·skip
       refine AL.n ?_
       refine AL.rf ?_
       refine AL.rf ?_
       refine AL.rf ?_
       refine AL.rf ?_
       refine AL.r (rd_pick_f rfl rfl rfl) ?_
       refine AL.ra ?_
       refine AL.nil ?_
       change AW _ _ _ _ _
       refine AW.ret ?_
       change ResA _ _ _ _ _
       refine res1 rfl (ResV.tmp rfl) rfl ?_
       refine congrArg (fun b => RS.s (AB b)) ?_
       grind [rightR, List.isEmpty_iff, List.length_eq_zero_iff]
     ·skip
      refine AL.n ?_
      refine AL.rf ?_
      refine AL.rf ?_
      refine AL.r (rd_pick_f rfl rfl rfl) ?_
      refine AL.rm ?_
      refine AL.rf ?_
      refine AL.rf ?_
      refine AL.rf ?_
      refine AL.rf ?_
      refine AL.r (rd_pick_f rfl rfl rfl) ?_
      refine AL.ra ?_
      refine AL.nil ?_
      change AW _ _ _ _ _
      refine AW.ret ?_
      change ResA _ _ _ _ _
      refine res1 rfl (ResV.tmp rfl) rfl ?_
      refine congrArg (fun b => RS.s (AB b)) ?_
      grind [rightR, List.isEmpty_iff, List.length_eq_zero_iff]
    ·skip
     refine AW.skip ?_
     change AW _ _ _ _ _
     refine AW.seq ?_
     refine AW.seq ?_
     refine AW.region ?_
     refine AL.r (rd_faddr_bx rfl fo_47_4 rfl rfl ⟨_, _, rfl⟩) ?_
     refine AL.r (rd_load_bx rfl ag_3 rfl rfl rfl) ?_
     refine AL.r (rd_bin rfl rfl rfl (fun _ => rfl)) ?_
     refine AL.nil ?_
     change AW _ _ _ _ _
     refine AW.cd rfl (fun h68 => ?_) (fun h68 => ?_)
     ·skip
      refine AW.seq ?_
      refine AW.region ?_
      refine AL.r (rd_faddr_bx rfl fo_47_5 rfl rfl ⟨_, _, rfl⟩) ?_
      refine AL.r (rd_load_bx rfl ag_9 rfl rfl rfl) ?_
      refine AL.op rfl (AOpB.op (op_call (rname_c o.item) rfl (by kernel_rfl) rfl (none) ?_))
      rintro r rfl
      refine AL.n ?_
      refine AL.rm ?_
      refine AL.fk (d := 72) rfl (fun h72 => ?_) (fun h72 => ?_)
      ·skip
       refine AL.n ?_
       refine AL.ro (rd_loadN_bx rfl ag_47 rfl rfl (Nat.le_of_ble_eq_true rfl) rfl) ?_
       refine AL.on rfl rfl rfl (AOpB.op (op_call (plain_c o) rfl (by kernel_rfl) rfl (none) ?_))
       rintro r rfl
       refine AL.n ?_
       refine AL.r (rd_pick_t rfl rfl rfl) ?_
       refine AL.ra ?_
       refine AL.nil ?_
       change AW _ _ _ _ _
       refine AW.ret ?_
       change ResA _ _ _ _ _
       refine res1 rfl (ResV.tmp rfl) rfl ?_
       refine congrArg (fun b => RS.s (AB b)) ?_
       grind [rightR, List.isEmpty_iff, List.length_eq_zero_iff]
      ·skip
       refine AL.n ?_
       refine AL.rf ?_
       refine AL.rf ?_
       refine AL.r (rd_pick_f rfl rfl rfl) ?_
       refine AL.ra ?_
       refine AL.nil ?_
       change AW _ _ _ _ _
       refine AW.ret ?_
       change ResA _ _ _ _ _
       refine res1 rfl (ResV.tmp rfl) rfl ?_
       refine congrArg (fun b => RS.s (AB b)) ?_
       grind [rightR, List.isEmpty_iff, List.length_eq_zero_iff]
     ·skip
      refine AW.skip ?_
      change AW _ _ _ _ _
      refine AW.join (ι := Unit) [2, 76, 77, 78, 79, 80, 81, 82, 83, 84, 85, 86, 87, 88, 89, 90, 91, 92, 93, 94, 95, 96, 97, 98, 99, 100, 101, 102] (fun u102 => []) [] (fun u102 => []) (fun u102 => placeB o.at_ = true ∧ (!decide (o.at_.scope = 1) || nameB o.item) = true ∧ (!decide (o.at_.scope = 0) || o.item.isEmpty) = true) ?_ ?_
      ·skip
       refine AW.seq ?_
       refine AW.region ?_
       refine AL.r (rd_faddr_bx rfl fo_47_6 rfl rfl ⟨_, _, rfl⟩) ?_
       refine AL.r (rd_loadN_bx rfl ag_27 rfl rfl (Nat.le_of_ble_eq_true rfl) rfl) ?_
       refine AL.op rfl (AOpB.op (op_call (rplace_c o.at_) rfl (by kernel_rfl) rfl (none) ?_))
       rintro r rfl
       refine AL.n ?_
       refine AL.r (rd_un rfl rfl (fun _ => rfl)) ?_
       refine AL.rm ?_
       refine AL.fk (d := 80) rfl (fun h80 => ?_) (fun h80 => ?_)
       ·skip
        refine AL.n ?_
        refine AL.rf ?_
        refine AL.rf ?_
        refine AL.rf ?_
        refine AL.rf ?_
        refine AL.rf ?_
        refine AL.ru ?_
        refine AL.ru ?_
        refine AL.ru ?_
        refine AL.ru ?_
        refine AL.rf ?_
        refine AL.r (rd_pick_t rfl rfl rfl) ?_
        refine AL.rm ?_
        refine AL.rf ?_
        refine AL.rf ?_
        refine AL.rf ?_
        refine AL.rf ?_
        refine AL.rf ?_
        refine AL.ru ?_
        refine AL.ru ?_
        refine AL.ru ?_
        refine AL.rf ?_
        refine AL.r (rd_pick_t rfl rfl rfl) ?_
        refine AL.nil ?_
        change AW _ _ _ _ _
        refine AW.cond_t rfl ?_
        refine AW.seq ?_
        refine AW.region ?_
        refine AL.ra ?_
        refine AL.nil ?_
        change AW _ _ _ _ _
        refine AW.ret ?_
        change ResA _ _ _ _ _
        refine res1 rfl (ResV.tmp rfl) rfl ?_
        refine congrArg (fun b => RS.s (AB b)) ?_
        grind [rightR, List.isEmpty_iff, List.length_eq_zero_iff]
       ·skip
        refine AL.n ?_
        refine AL.ro (rd_faddr_bx rfl fo_47_6 rfl rfl ⟨_, _, rfl⟩) ?_
        refine AL.ro (rd_faddr_bx rfl fo_27_0 rfl rfl ⟨_, _, rfl⟩) ?_
        refine AL.ro (rd_load_bx rfl ag_3 rfl rfl rfl) ?_
        refine AL.ro (rd_bin rfl rfl rfl (fun _ => rfl)) ?_
        refine AL.ro (rd_move rfl rfl) ?_
        refine AL.fk (d := 85) rfl (fun h85 => ?_) (fun h85 => ?_)
        ·skip
         refine AL.n ?_
         refine AL.ro (rd_faddr_bx rfl fo_47_5 rfl rfl ⟨_, _, rfl⟩) ?_
         refine AL.ro (rd_load_bx rfl ag_9 rfl rfl rfl) ?_
         refine AL.on rfl rfl rfl (AOpB.op (op_call (rname_c o.item) rfl (by kernel_rfl) rfl (none) ?_))
         rintro r rfl
         refine AL.n ?_
         refine AL.ro (rd_un rfl rfl (fun _ => rfl)) ?_
         refine AL.ro (rd_pick_t rfl rfl rfl) ?_
         refine AL.r (rd_pick_f rfl rfl rfl) ?_
         refine AL.rm ?_
         refine AL.fk (d := 92) rfl (fun h92 => ?_) (fun h92 => ?_)
         ·skip
          refine AL.n ?_
          refine AL.rf ?_
          refine AL.rf ?_
          refine AL.rf ?_
          refine AL.rf ?_
          refine AL.rf ?_
          refine AL.ru ?_
          refine AL.ru ?_
          refine AL.ru ?_
          refine AL.rf ?_
          refine AL.r (rd_pick_t rfl rfl rfl) ?_
          refine AL.nil ?_
          change AW _ _ _ _ _
          refine AW.cond_t rfl ?_
          refine AW.seq ?_
          refine AW.region ?_
          refine AL.ra ?_
          refine AL.nil ?_
          change AW _ _ _ _ _
          refine AW.ret ?_
          change ResA _ _ _ _ _
          refine res1 rfl (ResV.tmp rfl) rfl ?_
          refine congrArg (fun b => RS.s (AB b)) ?_
          grind [rightR, List.isEmpty_iff, List.length_eq_zero_iff]
         ·skip
          refine AL.n ?_
          refine AL.ro (rd_faddr_bx rfl fo_47_6 rfl rfl ⟨_, _, rfl⟩) ?_
          refine AL.ro (rd_faddr_bx rfl fo_27_0 rfl rfl ⟨_, _, rfl⟩) ?_
          refine AL.ro (rd_load_bx rfl ag_3 rfl rfl rfl) ?_
          refine AL.ro (rd_bin rfl rfl rfl (fun _ => rfl)) ?_
          refine AL.ro (rd_move rfl rfl) ?_
          refine AL.fk (d := 97) rfl (fun h97 => ?_) (fun h97 => ?_)
          ·skip
           refine AL.n ?_
           refine AL.ro (rd_faddr_bx rfl fo_47_5 rfl rfl ⟨_, _, rfl⟩) ?_
           refine AL.ro (rd_load_bx rfl ag_9 rfl rfl rfl) ?_
           refine AL.ro (rd_sne rfl rfl rfl) ?_
           refine AL.ro (rd_pick_t rfl rfl rfl) ?_
           refine AL.r (rd_pick_f rfl rfl rfl) ?_
           refine AL.nil ?_
           change AW _ _ _ _ _
           refine AW.cd rfl (fun h102 => ?_) (fun h102 => ?_)
           ·skip
            refine AW.seq ?_
            refine AW.region ?_
            refine AL.ra ?_
            refine AL.nil ?_
            change AW _ _ _ _ _
            refine AW.ret ?_
            change ResA _ _ _ _ _
            refine res1 rfl (ResV.tmp rfl) rfl ?_
            refine congrArg (fun b => RS.s (AB b)) ?_
            grind [rightR, List.isEmpty_iff, List.length_eq_zero_iff]
           ·skip
            refine AW.skip ?_
            refine ⟨(), by grind, (by simp only [anys, upds, offs, List.set_cons_zero, List.set_cons_succ]; repeat (first | exact Wk.nil | refine Wk.same ?_ | refine Wk.any ?_)), (by simp only [anys, upds, offs, List.set_cons_zero, List.set_cons_succ]; repeat (first | exact Sk.nil _ | refine Sk.same _ ?_ | refine Sk.scr _ (by decide) ?_))⟩
          ·skip
           refine AL.n ?_
           refine AL.rf ?_
           refine AL.rf ?_
           refine AL.rf ?_
           refine AL.ro (rd_pick_f rfl rfl rfl) ?_
           refine AL.r (rd_pick_f rfl rfl rfl) ?_
           refine AL.nil ?_
           change AW _ _ _ _ _
           refine AW.cond_f rfl ?_
           refine AW.skip ?_
           refine ⟨(), by grind, (by simp only [anys, upds, offs, List.set_cons_zero, List.set_cons_succ]; repeat (first | exact Wk.nil | refine Wk.same ?_ | refine Wk.any ?_)), (by simp only [anys, upds, offs, List.set_cons_zero, List.set_cons_succ]; repeat (first | exact Sk.nil _ | refine Sk.same _ ?_ | refine Sk.scr _ (by decide) ?_))⟩
        ·skip
         refine AL.n ?_
         refine AL.rf ?_
         refine AL.rf ?_
         refine AL.rf ?_
         refine AL.rf ?_
         refine AL.ro (rd_pick_f rfl rfl rfl) ?_
         refine AL.r (rd_pick_f rfl rfl rfl) ?_
         refine AL.rm ?_
         refine AL.ro (rd_faddr_bx rfl fo_47_6 rfl rfl ⟨_, _, rfl⟩) ?_
         refine AL.ro (rd_faddr_bx rfl fo_27_0 rfl rfl ⟨_, _, rfl⟩) ?_
         refine AL.ro (rd_load_bx rfl ag_3 rfl rfl rfl) ?_
         refine AL.ro (rd_bin rfl rfl rfl (fun _ => rfl)) ?_
         refine AL.ro (rd_move rfl rfl) ?_
         refine AL.fk (d := 97) rfl (fun h97 => ?_) (fun h97 => ?_)
         ·skip
          refine AL.n ?_
          refine AL.ro (rd_faddr_bx rfl fo_47_5 rfl rfl ⟨_, _, rfl⟩) ?_
          refine AL.ro (rd_load_bx rfl ag_9 rfl rfl rfl) ?_
          refine AL.ro (rd_sne rfl rfl rfl) ?_
          refine AL.ro (rd_pick_t rfl rfl rfl) ?_
          refine AL.r (rd_pick_f rfl rfl rfl) ?_
          refine AL.nil ?_
          change AW _ _ _ _ _
          refine AW.cd rfl (fun h102 => ?_) (fun h102 => ?_)
          ·skip
           refine AW.seq ?_
           refine AW.region ?_
           refine AL.ra ?_
           refine AL.nil ?_
           change AW _ _ _ _ _
           refine AW.ret ?_
           change ResA _ _ _ _ _
           refine res1 rfl (ResV.tmp rfl) rfl ?_
           refine congrArg (fun b => RS.s (AB b)) ?_
           grind [rightR, List.isEmpty_iff, List.length_eq_zero_iff]
          ·skip
           refine AW.skip ?_
           refine ⟨(), by grind, (by simp only [anys, upds, offs, List.set_cons_zero, List.set_cons_succ]; repeat (first | exact Wk.nil | refine Wk.same ?_ | refine Wk.any ?_)), (by simp only [anys, upds, offs, List.set_cons_zero, List.set_cons_succ]; repeat (first | exact Sk.nil _ | refine Sk.same _ ?_ | refine Sk.scr _ (by decide) ?_))⟩
         ·skip
          refine AL.n ?_
          refine AL.rf ?_
          refine AL.rf ?_
          refine AL.rf ?_
          refine AL.ro (rd_pick_f rfl rfl rfl) ?_
          refine AL.r (rd_pick_f rfl rfl rfl) ?_
          refine AL.nil ?_
          change AW _ _ _ _ _
          refine AW.cond_f rfl ?_
          refine AW.skip ?_
          refine ⟨(), by grind, (by simp only [anys, upds, offs, List.set_cons_zero, List.set_cons_succ]; repeat (first | exact Wk.nil | refine Wk.same ?_ | refine Wk.any ?_)), (by simp only [anys, upds, offs, List.set_cons_zero, List.set_cons_succ]; repeat (first | exact Sk.nil _ | refine Sk.same _ ?_ | refine Sk.scr _ (by decide) ?_))⟩
      ·rintro u102 gs102 hJ102
       refine AW.norm (by simp only [anys, upds, offs, List.set_cons_zero, List.set_cons_succ]; rfl) (by (try simp only [anys, upds, offs, List.set_cons_zero, List.set_cons_succ]); (try rfl)) ?_
       (try dsimp only at hJ102)
       change AW _ _ _ _ _
       refine AW.seq ?_
       refine AW.seq ?_
       refine AW.region ?_
       refine AL.r (rd_faddr_bx rfl fo_47_4 rfl rfl ⟨_, _, rfl⟩) ?_
       refine AL.r (rd_load_bx rfl ag_3 rfl rfl rfl) ?_
       refine AL.r (rd_bin rfl rfl rfl (fun _ => rfl)) ?_
       refine AL.nil ?_
       change AW _ _ _ _ _
       refine AW.cd rfl (fun h105 => ?_) (fun h105 => ?_)
       ·skip
        refine AW.seq ?_
        refine AW.region ?_
        refine AL.r (rd_faddr_bx rfl fo_47_8 rfl rfl ⟨_, _, rfl⟩) ?_
        refine AL.r (rd_load_bx rfl ag_4 rfl rfl rfl) ?_
        refine AL.r (rd_un rfl rfl (fun _ => rfl)) ?_
        refine AL.rm ?_
        refine AL.fk (d := 109) rfl (fun h109 => ?_) (fun h109 => ?_)
        ·skip
         refine AL.n ?_
         refine AL.ro (rd_faddr_bx rfl fo_47_9 rfl rfl ⟨_, _, rfl⟩) ?_
         refine AL.ro (rd_load_bx rfl ag_9 rfl rfl rfl) ?_
         refine AL.ro (rd_seq rfl rfl rfl) ?_
         refine AL.r (rd_pick_t rfl rfl rfl) ?_
         refine AL.rm ?_
         refine AL.fk (d := 114) rfl (fun h114 => ?_) (fun h114 => ?_)
         ·skip
          refine AL.n ?_
          refine AL.ro (rd_faddr_bx rfl fo_47_10 rfl rfl ⟨_, _, rfl⟩) ?_
          refine AL.ro (rd_load_bx rfl ag_45 rfl rfl rfl) ?_
          refine AL.ro (rd_len_sl rfl el_45 rfl) ?_
          refine AL.ro (rd_bin rfl rfl rfl (fun _ => rfl)) ?_
          refine AL.r (rd_pick_t rfl rfl rfl) ?_
          refine AL.rm ?_
          refine AL.fk (d := 120) rfl (fun h120 => ?_) (fun h120 => ?_)
          ·skip
           refine AL.n ?_
           refine AL.ro (rd_faddr_bx rfl fo_47_7 rfl rfl ⟨_, _, rfl⟩) ?_
           refine AL.ro (rd_load_bx rfl ag_2 rfl rfl rfl) ?_
           refine AL.ro (rd_bin rfl rfl rfl (fun _ => rfl)) ?_
           refine AL.r (rd_pick_t rfl rfl rfl) ?_
           refine AL.rm ?_
           refine AL.fk (d := 125) rfl (fun h125 => ?_) (fun h125 => ?_)
           ·skip
            refine AL.n ?_
            refine AL.ro (rd_faddr_bx rfl fo_47_7 rfl rfl ⟨_, _, rfl⟩) ?_
            refine AL.ro (rd_load_bx rfl ag_2 rfl rfl rfl) ?_
            refine AL.ro (rd_bin rfl rfl rfl (fun _ => rfl)) ?_
            refine AL.r (rd_pick_t rfl rfl rfl) ?_
            refine AL.ra ?_
            refine AL.nil ?_
            change AW _ _ _ _ _
            refine AW.ret ?_
            change ResA _ _ _ _ _
            refine res1 rfl (ResV.tmp rfl) rfl ?_
            refine congrArg (fun b => RS.s (AB b)) ?_
            grind [rightR, List.isEmpty_iff, List.length_eq_zero_iff]
           ·skip
            refine AL.n ?_
            refine AL.rf ?_
            refine AL.rf ?_
            refine AL.rf ?_
            refine AL.r (rd_pick_f rfl rfl rfl) ?_
            refine AL.ra ?_
            refine AL.nil ?_
            change AW _ _ _ _ _
            refine AW.ret ?_
            change ResA _ _ _ _ _
            refine res1 rfl (ResV.tmp rfl) rfl ?_
            refine congrArg (fun b => RS.s (AB b)) ?_
            grind [rightR, List.isEmpty_iff, List.length_eq_zero_iff]
          ·skip
           refine AL.n ?_
           refine AL.rf ?_
           refine AL.rf ?_
           refine AL.rf ?_
           refine AL.r (rd_pick_f rfl rfl rfl) ?_
           refine AL.rm ?_
           refine AL.rf ?_
           refine AL.rf ?_
           refine AL.rf ?_
           refine AL.r (rd_pick_f rfl rfl rfl) ?_
           refine AL.ra ?_
           refine AL.nil ?_
           change AW _ _ _ _ _
           refine AW.ret ?_
           change ResA _ _ _ _ _
           refine res1 rfl (ResV.tmp rfl) rfl ?_
           refine congrArg (fun b => RS.s (AB b)) ?_
           grind [rightR, List.isEmpty_iff, List.length_eq_zero_iff]
         ·skip
          refine AL.n ?_
          refine AL.rf ?_
          refine AL.rf ?_
          refine AL.rf ?_
          refine AL.rf ?_
          refine AL.r (rd_pick_f rfl rfl rfl) ?_
          refine AL.rm ?_
          refine AL.rf ?_
          refine AL.rf ?_
          refine AL.rf ?_
          refine AL.r (rd_pick_f rfl rfl rfl) ?_
          refine AL.rm ?_
          refine AL.rf ?_
          refine AL.rf ?_
          refine AL.rf ?_
          refine AL.r (rd_pick_f rfl rfl rfl) ?_
          refine AL.ra ?_
          refine AL.nil ?_
          change AW _ _ _ _ _
          refine AW.ret ?_
          change ResA _ _ _ _ _
          refine res1 rfl (ResV.tmp rfl) rfl ?_
          refine congrArg (fun b => RS.s (AB b)) ?_
          grind [rightR, List.isEmpty_iff, List.length_eq_zero_iff]
        ·skip
         refine AL.n ?_
         refine AL.rf ?_
         refine AL.rf ?_
         refine AL.rf ?_
         refine AL.r (rd_pick_f rfl rfl rfl) ?_
         refine AL.rm ?_
         refine AL.rf ?_
         refine AL.rf ?_
         refine AL.rf ?_
         refine AL.rf ?_
         refine AL.r (rd_pick_f rfl rfl rfl) ?_
         refine AL.rm ?_
         refine AL.rf ?_
         refine AL.rf ?_
         refine AL.rf ?_
         refine AL.r (rd_pick_f rfl rfl rfl) ?_
         refine AL.rm ?_
         refine AL.rf ?_
         refine AL.rf ?_
         refine AL.rf ?_
         refine AL.r (rd_pick_f rfl rfl rfl) ?_
         refine AL.ra ?_
         refine AL.nil ?_
         change AW _ _ _ _ _
         refine AW.ret ?_
         change ResA _ _ _ _ _
         refine res1 rfl (ResV.tmp rfl) rfl ?_
         refine congrArg (fun b => RS.s (AB b)) ?_
         grind [rightR, List.isEmpty_iff, List.length_eq_zero_iff]
       ·skip
        refine AW.skip ?_
        change AW _ _ _ _ _
        refine AW.seq ?_
        refine AW.region ?_
        refine AL.r (rd_faddr_bx rfl fo_47_4 rfl rfl ⟨_, _, rfl⟩) ?_
        refine AL.r (rd_load_bx rfl ag_3 rfl rfl rfl) ?_
        refine AL.r (rd_bin rfl rfl rfl (fun _ => rfl)) ?_
        refine AL.rm ?_
        refine AL.fk (d := 133) rfl (fun h133 => ?_) (fun h133 => ?_)
        ·skip
         refine AL.n ?_
         refine AL.ro (rd_faddr_bx rfl fo_47_7 rfl rfl ⟨_, _, rfl⟩) ?_
         refine AL.ro (rd_load_bx rfl ag_2 rfl rfl rfl) ?_
         refine AL.ro (rd_bin rfl rfl rfl (fun _ => rfl)) ?_
         refine AL.r (rd_pick_t rfl rfl rfl) ?_
         refine AL.rm ?_
         refine AL.fk (d := 138) rfl (fun h138 => ?_) (fun h138 => ?_)
         ·skip
          refine AL.n ?_
          refine AL.ro (rd_faddr_bx rfl fo_47_8 rfl rfl ⟨_, _, rfl⟩) ?_
          refine AL.ro (rd_load_bx rfl ag_4 rfl rfl rfl) ?_
          refine AL.ro (rd_move rfl rfl) ?_
          refine AL.fk (d := 141) rfl (fun h141 => ?_) (fun h141 => ?_)
          ·skip
           refine AL.n ?_
           refine AL.ro (rd_faddr_bx rfl fo_47_9 rfl rfl ⟨_, _, rfl⟩) ?_
           refine AL.ro (rd_load_bx rfl ag_9 rfl rfl rfl) ?_
           refine AL.ro (rd_len_str rfl str_9 rfl) ?_
           refine AL.ro (rd_bin rfl rfl rfl (fun _ => rfl)) ?_
           refine AL.ro (rd_pick_t rfl rfl rfl) ?_
           refine AL.ro (rd_move rfl rfl) ?_
           refine AL.fk (d := 147) rfl (fun h147 => ?_) (fun h147 => ?_)
           ·skip
            refine AL.n ?_
            refine AL.rf ?_
            refine AL.rf ?_
            refine AL.rf ?_
            refine AL.rf ?_
            refine AL.ru ?_
            refine AL.ru ?_
            refine AL.ru ?_
            refine AL.rf ?_
            refine AL.ro (rd_pick_t rfl rfl rfl) ?_
            refine AL.r (rd_pick_t rfl rfl rfl) ?_
            refine AL.ra ?_
            refine AL.nil ?_
            change AW _ _ _ _ _
            refine AW.ret ?_
            change ResA _ _ _ _ _
            refine res1 rfl (ResV.tmp rfl) rfl ?_
            refine congrArg (fun b => RS.s (AB b)) ?_
            grind [rightR, List.isEmpty_iff, List.length_eq_zero_iff]
           ·skip
            refine AL.n ?_
            refine AL.ro (rd_faddr_bx rfl fo_47_8 rfl rfl ⟨_, _, rfl⟩) ?_
            refine AL.ro (rd_load_bx rfl ag_4 rfl rfl rfl) ?_
            refine AL.ro (rd_un rfl rfl (fun _ => rfl)) ?_
            refine AL.ro (rd_move rfl rfl) ?_
            refine AL.fk (d := 151) rfl (fun h151 => ?_) (fun h151 => ?_)
            ·skip
             refine AL.n ?_
             refine AL.ro (rd_faddr_bx rfl fo_47_9 rfl rfl ⟨_, _, rfl⟩) ?_
             refine AL.ro (rd_load_bx rfl ag_9 rfl rfl rfl) ?_
             refine AL.ro (rd_seq rfl rfl rfl) ?_
             refine AL.ro (rd_pick_t rfl rfl rfl) ?_
             refine AL.ro (rd_pick_f rfl rfl rfl) ?_
             refine AL.r (rd_pick_t rfl rfl rfl) ?_
             refine AL.ra ?_
             refine AL.nil ?_
             change AW _ _ _ _ _
             refine AW.ret ?_
             change ResA _ _ _ _ _
             refine res1 rfl (ResV.tmp rfl) rfl ?_
             refine congrArg (fun b => RS.s (AB b)) ?_
             grind [rightR, List.isEmpty_iff, List.length_eq_zero_iff]
            ·skip
             refine AL.n ?_
             refine AL.rf ?_
             refine AL.rf ?_
             refine AL.rf ?_
             refine AL.ro (rd_pick_f rfl rfl rfl) ?_
             refine AL.ro (rd_pick_f rfl rfl rfl) ?_
             refine AL.r (rd_pick_t rfl rfl rfl) ?_
             refine AL.ra ?_
             refine AL.nil ?_
             change AW _ _ _ _ _
             refine AW.ret ?_
             change ResA _ _ _ _ _
             refine res1 rfl (ResV.tmp rfl) rfl ?_
             refine congrArg (fun b => RS.s (AB b)) ?_
             grind [rightR, List.isEmpty_iff, List.length_eq_zero_iff]
          ·skip
           refine AL.n ?_
           refine AL.rf ?_
           refine AL.rf ?_
           refine AL.rf ?_
           refine AL.rf ?_
           refine AL.ro (rd_pick_f rfl rfl rfl) ?_
           refine AL.ro (rd_move rfl rfl) ?_
           refine AL.ro (rd_faddr_bx rfl fo_47_8 rfl rfl ⟨_, _, rfl⟩) ?_
           refine AL.ro (rd_load_bx rfl ag_4 rfl rfl rfl) ?_
           refine AL.ro (rd_un rfl rfl (fun _ => rfl)) ?_
           refine AL.ro (rd_move rfl rfl) ?_
           refine AL.fk (d := 151) rfl (fun h151 => ?_) (fun h151 => ?_)
           ·skip
            refine AL.n ?_
            refine AL.ro (rd_faddr_bx rfl fo_47_9 rfl rfl ⟨_, _, rfl⟩) ?_
            refine AL.ro (rd_load_bx rfl ag_9 rfl rfl rfl) ?_
            refine AL.ro (rd_seq rfl rfl rfl) ?_
            refine AL.ro (rd_pick_t rfl rfl rfl) ?_
            refine AL.ro (rd_pick_f rfl rfl rfl) ?_
            refine AL.r (rd_pick_t rfl rfl rfl) ?_
            refine AL.ra ?_
            refine AL.nil ?_
            change AW _ _ _ _ _
            refine AW.ret ?_
            change ResA _ _ _ _ _
            refine res1 rfl (ResV.tmp rfl) rfl ?_
            refine congrArg (fun b => RS.s (AB b)) ?_
            grind [rightR, List.isEmpty_iff, List.length_eq_zero_iff]
           ·skip
            refine AL.n ?_
            refine AL.rf ?_
            refine AL.rf ?_
            refine AL.rf ?_
            refine AL.ro (rd_pick_f rfl rfl rfl) ?_
            refine AL.ro (rd_pick_f rfl rfl rfl) ?_
            refine AL.r (rd_pick_t rfl rfl rfl) ?_
            refine AL.ra ?_
            refine AL.nil ?_
            change AW _ _ _ _ _
            refine AW.ret ?_
            change ResA _ _ _ _ _
            refine res1 rfl (ResV.tmp rfl) rfl ?_
            refine congrArg (fun b => RS.s (AB b)) ?_
            grind [rightR, List.isEmpty_iff, List.length_eq_zero_iff]
         ·skip
          refine AL.n ?_
          refine AL.rf ?_
          refine AL.rf ?_
          refine AL.rf ?_
          refine AL.ru ?_
          refine AL.ru ?_
          refine AL.ru ?_
          refine AL.ru ?_
          refine AL.rf ?_
          refine AL.rf ?_
          refine AL.ru ?_
          refine AL.ru ?_
          refine AL.ru ?_
          refine AL.ru ?_
          refine AL.ru ?_
          refine AL.ru ?_
          refine AL.ru ?_
          refine AL.ru ?_
          refine AL.rf ?_
          refine AL.r (rd_pick_f rfl rfl rfl) ?_
          refine AL.ra ?_
          refine AL.nil ?_
          change AW _ _ _ _ _
          refine AW.ret ?_
          change ResA _ _ _ _ _
          refine res1 rfl (ResV.tmp rfl) rfl ?_
          refine congrArg (fun b => RS.s (AB b)) ?_
          grind [rightR, List.isEmpty_iff, List.length_eq_zero_iff]
        ·skip
         refine AL.n ?_
         refine AL.rf ?_
         refine AL.rf ?_
         refine AL.rf ?_
         refine AL.r (rd_pick_f rfl rfl rfl) ?_
         refine AL.rm ?_
         refine AL.rf ?_
         refine AL.rf ?_
         refine AL.rf ?_
         refine AL.ru ?_
         refine AL.ru ?_
         refine AL.ru ?_
         refine AL.ru ?_
         refine AL.rf ?_
         refine AL.rf ?_
         refine AL.ru ?_
         refine AL.ru ?_
         refine AL.ru ?_
         refine AL.ru ?_
         refine AL.ru ?_
         refine AL.ru ?_
         refine AL.ru ?_
         refine AL.ru ?_
         refine AL.rf ?_
         refine AL.r (rd_pick_f rfl rfl rfl) ?_
         refine AL.ra ?_
         refine AL.nil ?_
         change AW _ _ _ _ _
         refine AW.ret ?_
         change ResA _ _ _ _ _
         refine res1 rfl (ResV.tmp rfl) rfl ?_
         refine congrArg (fun b => RS.s (AB b)) ?_
         grind [rightR, List.isEmpty_iff, List.length_eq_zero_iff]
end Go.Proofs.Ytfjnkhanndkpfaa
