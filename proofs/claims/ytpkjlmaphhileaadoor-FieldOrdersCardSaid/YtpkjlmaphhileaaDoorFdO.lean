/- The law FieldOrders, walked. No conditions. -/
import Derived.Test.YtpkjlmaphhileaaDoorFdA
import Derived.Test.YtpkjlmaphhileaaDoorLsR
import Derived.Test.YtpkjlmaphhileaaDoorOpF
namespace Go.Proofs.YtpkjlmaphhileaaDoor
set_option linter.unusedSimpArgs false
set_option linter.unusedVariables false
set_option maxRecDepth 100000
open Go.RowKit

theorem lessR_asym {a b : RefD} (h1 : lessR a b = true) (h2 : lessR b a = true) : False := lessR_irr a (lessR_trans h1 h2)
theorem forders_c (a b c : RefD) : AC Tryd.prog 4 [a.av, b.av, c.av] (fun x => x = .s (AB true)) := by
  refine AC.of' 50 3 Tryd.func4 rfl ?_
  change AW _ _ _ _ [TK.mk 0 .off, TK.mk 0 .off, TK.mk 0 .off]
  refine AW.seq ?_
  refine AW.region ?_
  refine AL.op rfl (AOpB.op (op_box 0 rfl rfl rfl rfl rfl ?_))
  refine AL.n ?_
  refine AL.op rfl (AOpB.op (op_box 1 rfl rfl rfl rfl rfl ?_))
  refine AL.n ?_
  refine AL.op rfl (AOpB.op (op_box 2 rfl rfl rfl rfl rfl ?_))
  refine AL.n ?_
  refine AL.ra ?_
  refine AL.nil ?_
  change AW _ _ _ _ _
  refine AW.seq ?_
  refine AW.seq ?_
  refine AW.region ?_
  refine AL.op rfl (AOpB.op (op_call (awake_c) rfl (by kernel_rfl) rfl (none) ?_))
  rintro r rfl
  refine AL.n ?_
  refine AL.r (rd_un rfl rfl (fun _ => rfl)) ?_
  refine AL.nil ?_
  change AW _ _ _ _ _
  refine AW.cd rfl (fun h10 => ?_) (fun h10 => ?_)
  ·skip
   refine AW.seq ?_
   cases h10
  ·skip
   refine AW.skip ?_
   change AW _ _ _ _ _
   refine AW.seq ?_
   refine AW.draw (by kernel_rfl) ?_
   refine AD.r 0 rfl (rd_loadN_bx rfl ag_23 rfl rfl (Nat.le_of_ble_eq_true rfl) rfl) rfl ?_
   refine AD.r 1 rfl (rd_loadN_bx rfl ag_23 rfl rfl (Nat.le_of_ble_eq_true rfl) rfl) rfl ?_
   refine AD.r 3 rfl (rd_loadN_bx rfl ag_23 rfl rfl (Nat.le_of_ble_eq_true rfl) rfl) rfl ?_
   refine AD.r 4 rfl (rd_loadN_bx rfl ag_23 rfl rfl (Nat.le_of_ble_eq_true rfl) rfl) rfl ?_
   refine AD.move 2 rfl (by kernel_rfl) rfl (op_call (less_c a b) rfl (by kernel_rfl) rfl (none) ?_)
   rintro r rfl
   refine AD.n ?_
   refine AD.move 5 rfl (by kernel_rfl) rfl (op_call (less_c b a) rfl (by kernel_rfl) rfl (none) ?_)
   rintro r rfl
   refine AD.n ?_
   refine AD.r 6 rfl (rd_assign rfl rfl) rfl ?_
   refine AD.r 7 rfl (rd_assign rfl rfl) rfl ?_
   refine AD.done (by kernel_rfl) ?_
   change AW _ _ _ _ _
   refine AW.seq ?_
   refine AW.seq ?_
   refine AW.region ?_
   refine AL.rm ?_
   refine AL.r (rd_loadN_bx rfl ag_23 rfl rfl (Nat.le_of_ble_eq_true rfl) rfl) ?_
   refine AL.r (rd_loadN_bx rfl ag_23 rfl rfl (Nat.le_of_ble_eq_true rfl) rfl) ?_
   refine AL.op rfl (AOpB.op (op_call (rless_c a b) rfl (by kernel_rfl) rfl (none) ?_))
   rintro r rfl
   refine AL.n ?_
   refine AL.r (rd_bneq rfl bo_4 rfl rfl) ?_
   refine AL.rm ?_
   refine AL.fk (d := 22) rfl (fun h22 => ?_) (fun h22 => ?_)
   ·skip
    refine AL.n ?_
    refine AL.rf ?_
    refine AL.rf ?_
    refine AL.ru ?_
    refine AL.rf ?_
    refine AL.r (rd_pick_t rfl rfl rfl) ?_
    refine AL.rm ?_
    refine AL.rf ?_
    refine AL.rf ?_
    refine AL.rf ?_
    refine AL.rf ?_
    refine AL.rf ?_
    refine AL.rf ?_
    refine AL.ru ?_
    refine AL.ru ?_
    refine AL.rf ?_
    refine AL.rf ?_
    refine AL.r (rd_pick_t rfl rfl rfl) ?_
    refine AL.nil ?_
    change AW _ _ _ _ _
    refine AW.cond_t rfl ?_
    refine AW.seq ?_
    refine AW.region ?_
    refine AL.ra ?_
    refine AL.nil ?_
    change AW _ _ _ _ _
    refine AW.ret ?_
    change ResA _ _ _ _ _
    refine res1 rfl (ResV.tmp rfl) rfl ?_
    first | rfl | (have t := @lessR_tri a b; have u := @lessR_asym a b; have i := lessR_irr a; have tr := @lessR_trans a b c; have ea : (RefD.mk a.scope a.group a.name = RefD.mk b.scope b.group b.name) = (a = b) := rfl; simp only [ea] at *; by_cases q : a = b <;> first | (subst q; simp_all; done) | (simp_all; done))
   ·skip
    refine AL.n ?_
    refine AL.ro (rd_move rfl rfl) ?_
    refine AL.ro (rd_move rfl rfl) ?_
    refine AL.fk (d := 24) rfl (fun h24 => ?_) (fun h24 => ?_)
    ·skip
     refine AL.n ?_
     refine AL.ro (rd_move rfl rfl) ?_
     refine AL.ro (rd_pick_t rfl rfl rfl) ?_
     refine AL.r (rd_pick_f rfl rfl rfl) ?_
     refine AL.rm ?_
     refine AL.fk (d := 28) rfl (fun h28 => ?_) (fun h28 => ?_)
     ·skip
      refine AL.n ?_
      refine AL.rf ?_
      refine AL.rf ?_
      refine AL.rf ?_
      refine AL.rf ?_
      refine AL.rf ?_
      refine AL.rf ?_
      refine AL.ru ?_
      refine AL.ru ?_
      refine AL.rf ?_
      refine AL.rf ?_
      refine AL.r (rd_pick_t rfl rfl rfl) ?_
      refine AL.nil ?_
      change AW _ _ _ _ _
      refine AW.cond_t rfl ?_
      refine AW.seq ?_
      refine AW.region ?_
      refine AL.ra ?_
      refine AL.nil ?_
      change AW _ _ _ _ _
      refine AW.ret ?_
      change ResA _ _ _ _ _
      refine res1 rfl (ResV.tmp rfl) rfl ?_
      first | rfl | (have t := @lessR_tri a b; have u := @lessR_asym a b; have i := lessR_irr a; have tr := @lessR_trans a b c; have ea : (RefD.mk a.scope a.group a.name = RefD.mk b.scope b.group b.name) = (a = b) := rfl; simp only [ea] at *; by_cases q : a = b <;> first | (subst q; simp_all; done) | (simp_all; done))
     ·skip
      refine AL.n ?_
      refine AL.ro (rd_loadN_bx rfl ag_23 rfl rfl (Nat.le_of_ble_eq_true rfl) rfl) ?_
      refine AL.ro (rd_loadN_bx rfl ag_23 rfl rfl (Nat.le_of_ble_eq_true rfl) rfl) ?_
      refine AL.ro (rd_eq_Ref rfl rfl rfl) ?_
      refine AL.ro (rd_move rfl rfl) ?_
      refine AL.ro (rd_un rfl rfl (fun _ => rfl)) ?_
      refine AL.ro (rd_move rfl rfl) ?_
      refine AL.fk (d := 34) rfl (fun h34 => ?_) (fun h34 => ?_)
      ·skip
       refine AL.n ?_
       refine AL.ro (rd_move rfl rfl) ?_
       refine AL.ro (rd_un rfl rfl (fun _ => rfl)) ?_
       refine AL.ro (rd_pick_t rfl rfl rfl) ?_
       refine AL.ro (rd_bneq rfl bo_4 rfl rfl) ?_
       refine AL.r (rd_pick_f rfl rfl rfl) ?_
       refine AL.nil ?_
       change AW _ _ _ _ _
       refine AW.cd rfl (fun h39 => ?_) (fun h39 => ?_)
       ·skip
        refine AW.seq ?_
        refine AW.region ?_
        refine AL.ra ?_
        refine AL.nil ?_
        change AW _ _ _ _ _
        refine AW.ret ?_
        change ResA _ _ _ _ _
        refine res1 rfl (ResV.tmp rfl) rfl ?_
        first | rfl | (have t := @lessR_tri a b; have u := @lessR_asym a b; have i := lessR_irr a; have tr := @lessR_trans a b c; have ea : (RefD.mk a.scope a.group a.name = RefD.mk b.scope b.group b.name) = (a = b) := rfl; simp only [ea] at *; by_cases q : a = b <;> first | (subst q; simp_all; done) | (simp_all; done))
       ·skip
        refine AW.skip ?_
        change AW _ _ _ _ _
        refine AW.seq ?_
        refine AW.region ?_
        refine AL.rm ?_
        refine AL.r (rd_un rfl rfl (fun _ => rfl)) ?_
        refine AL.rm ?_
        refine AL.fk (d := 42) rfl (fun h42 => ?_) (fun h42 => ?_)
        ·skip
         refine AL.n ?_
         refine AL.rf ?_
         refine AL.rf ?_
         refine AL.rf ?_
         refine AL.rf ?_
         refine AL.r (rd_pick_t rfl rfl rfl) ?_
         refine AL.rm ?_
         refine AL.rf ?_
         refine AL.rf ?_
         refine AL.rf ?_
         refine AL.r (rd_pick_t rfl rfl rfl) ?_
         refine AL.ra ?_
         refine AL.nil ?_
         change AW _ _ _ _ _
         refine AW.ret ?_
         change ResA _ _ _ _ _
         refine res1 rfl (ResV.tmp rfl) rfl ?_
         first | rfl | (have t := @lessR_tri a b; have u := @lessR_asym a b; have i := lessR_irr a; have tr := @lessR_trans a b c; have ea : (RefD.mk a.scope a.group a.name = RefD.mk b.scope b.group b.name) = (a = b) := rfl; simp only [ea] at *; by_cases q : a = b <;> first | (subst q; simp_all; done) | (simp_all; done))
        ·skip
         refine AL.n ?_
         refine AL.ro (rd_loadN_bx rfl ag_23 rfl rfl (Nat.le_of_ble_eq_true rfl) rfl) ?_
         refine AL.ro (rd_loadN_bx rfl ag_23 rfl rfl (Nat.le_of_ble_eq_true rfl) rfl) ?_
         refine AL.on rfl rfl rfl (AOpB.op (op_call (less_c b c) rfl (by kernel_rfl) rfl (none) ?_))
         rintro r rfl
         refine AL.n ?_
         refine AL.ro (rd_un rfl rfl (fun _ => rfl)) ?_
         refine AL.r (rd_pick_f rfl rfl rfl) ?_
         refine AL.rm ?_
         refine AL.fk (d := 48) rfl (fun h48 => ?_) (fun h48 => ?_)
         ·skip
          refine AL.n ?_
          refine AL.rf ?_
          refine AL.rf ?_
          refine AL.rf ?_
          refine AL.r (rd_pick_t rfl rfl rfl) ?_
          refine AL.ra ?_
          refine AL.nil ?_
          change AW _ _ _ _ _
          refine AW.ret ?_
          change ResA _ _ _ _ _
          refine res1 rfl (ResV.tmp rfl) rfl ?_
          first | rfl | (have t := @lessR_tri a b; have u := @lessR_asym a b; have i := lessR_irr a; have tr := @lessR_trans a b c; have ea : (RefD.mk a.scope a.group a.name = RefD.mk b.scope b.group b.name) = (a = b) := rfl; simp only [ea] at *; by_cases q : a = b <;> first | (subst q; simp_all; done) | (simp_all; done))
         ·skip
          refine AL.n ?_
          refine AL.ro (rd_loadN_bx rfl ag_23 rfl rfl (Nat.le_of_ble_eq_true rfl) rfl) ?_
          refine AL.ro (rd_loadN_bx rfl ag_23 rfl rfl (Nat.le_of_ble_eq_true rfl) rfl) ?_
          refine AL.on rfl rfl rfl (AOpB.op (op_call (less_c a c) rfl (by kernel_rfl) rfl (none) ?_))
          rintro r rfl
          refine AL.n ?_
          refine AL.r (rd_pick_f rfl rfl rfl) ?_
          refine AL.ra ?_
          refine AL.nil ?_
          change AW _ _ _ _ _
          refine AW.ret ?_
          change ResA _ _ _ _ _
          refine res1 rfl (ResV.tmp rfl) rfl ?_
          first | rfl | (have t := @lessR_tri a b; have u := @lessR_asym a b; have i := lessR_irr a; have tr := @lessR_trans a b c; have ea : (RefD.mk a.scope a.group a.name = RefD.mk b.scope b.group b.name) = (a = b) := rfl; simp only [ea] at *; by_cases q : a = b <;> first | (subst q; simp_all; done) | (simp_all; done))
      ·skip
       refine AL.n ?_
       refine AL.rf ?_
       refine AL.rf ?_
       refine AL.ro (rd_pick_f rfl rfl rfl) ?_
       refine AL.ro (rd_bneq rfl bo_4 rfl rfl) ?_
       refine AL.r (rd_pick_f rfl rfl rfl) ?_
       refine AL.nil ?_
       change AW _ _ _ _ _
       refine AW.cd rfl (fun h39 => ?_) (fun h39 => ?_)
       ·skip
        refine AW.seq ?_
        refine AW.region ?_
        refine AL.ra ?_
        refine AL.nil ?_
        change AW _ _ _ _ _
        refine AW.ret ?_
        change ResA _ _ _ _ _
        refine res1 rfl (ResV.tmp rfl) rfl ?_
        first | rfl | (have t := @lessR_tri a b; have u := @lessR_asym a b; have i := lessR_irr a; have tr := @lessR_trans a b c; have ea : (RefD.mk a.scope a.group a.name = RefD.mk b.scope b.group b.name) = (a = b) := rfl; simp only [ea] at *; by_cases q : a = b <;> first | (subst q; simp_all; done) | (simp_all; done))
       ·skip
        refine AW.skip ?_
        change AW _ _ _ _ _
        refine AW.seq ?_
        refine AW.region ?_
        refine AL.rm ?_
        refine AL.r (rd_un rfl rfl (fun _ => rfl)) ?_
        refine AL.rm ?_
        refine AL.fk (d := 42) rfl (fun h42 => ?_) (fun h42 => ?_)
        ·skip
         refine AL.n ?_
         refine AL.rf ?_
         refine AL.rf ?_
         refine AL.rf ?_
         refine AL.rf ?_
         refine AL.r (rd_pick_t rfl rfl rfl) ?_
         refine AL.rm ?_
         refine AL.rf ?_
         refine AL.rf ?_
         refine AL.rf ?_
         refine AL.r (rd_pick_t rfl rfl rfl) ?_
         refine AL.ra ?_
         refine AL.nil ?_
         change AW _ _ _ _ _
         refine AW.ret ?_
         change ResA _ _ _ _ _
         refine res1 rfl (ResV.tmp rfl) rfl ?_
         first | rfl | (have t := @lessR_tri a b; have u := @lessR_asym a b; have i := lessR_irr a; have tr := @lessR_trans a b c; have ea : (RefD.mk a.scope a.group a.name = RefD.mk b.scope b.group b.name) = (a = b) := rfl; simp only [ea] at *; by_cases q : a = b <;> first | (subst q; simp_all; done) | (simp_all; done))
        ·skip
         refine AL.n ?_
         refine AL.ro (rd_loadN_bx rfl ag_23 rfl rfl (Nat.le_of_ble_eq_true rfl) rfl) ?_
         refine AL.ro (rd_loadN_bx rfl ag_23 rfl rfl (Nat.le_of_ble_eq_true rfl) rfl) ?_
         refine AL.on rfl rfl rfl (AOpB.op (op_call (less_c b c) rfl (by kernel_rfl) rfl (none) ?_))
         rintro r rfl
         refine AL.n ?_
         refine AL.ro (rd_un rfl rfl (fun _ => rfl)) ?_
         refine AL.r (rd_pick_f rfl rfl rfl) ?_
         refine AL.rm ?_
         refine AL.fk (d := 48) rfl (fun h48 => ?_) (fun h48 => ?_)
         ·skip
          refine AL.n ?_
          refine AL.rf ?_
          refine AL.rf ?_
          refine AL.rf ?_
          refine AL.r (rd_pick_t rfl rfl rfl) ?_
          refine AL.ra ?_
          refine AL.nil ?_
          change AW _ _ _ _ _
          refine AW.ret ?_
          change ResA _ _ _ _ _
          refine res1 rfl (ResV.tmp rfl) rfl ?_
          first | rfl | (have t := @lessR_tri a b; have u := @lessR_asym a b; have i := lessR_irr a; have tr := @lessR_trans a b c; have ea : (RefD.mk a.scope a.group a.name = RefD.mk b.scope b.group b.name) = (a = b) := rfl; simp only [ea] at *; by_cases q : a = b <;> first | (subst q; simp_all; done) | (simp_all; done))
         ·skip
          refine AL.n ?_
          refine AL.ro (rd_loadN_bx rfl ag_23 rfl rfl (Nat.le_of_ble_eq_true rfl) rfl) ?_
          refine AL.ro (rd_loadN_bx rfl ag_23 rfl rfl (Nat.le_of_ble_eq_true rfl) rfl) ?_
          refine AL.on rfl rfl rfl (AOpB.op (op_call (less_c a c) rfl (by kernel_rfl) rfl (none) ?_))
          rintro r rfl
          refine AL.n ?_
          refine AL.r (rd_pick_f rfl rfl rfl) ?_
          refine AL.ra ?_
          refine AL.nil ?_
          change AW _ _ _ _ _
          refine AW.ret ?_
          change ResA _ _ _ _ _
          refine res1 rfl (ResV.tmp rfl) rfl ?_
          first | rfl | (have t := @lessR_tri a b; have u := @lessR_asym a b; have i := lessR_irr a; have tr := @lessR_trans a b c; have ea : (RefD.mk a.scope a.group a.name = RefD.mk b.scope b.group b.name) = (a = b) := rfl; simp only [ea] at *; by_cases q : a = b <;> first | (subst q; simp_all; done) | (simp_all; done))
    ·skip
     refine AL.n ?_
     refine AL.rf ?_
     refine AL.ro (rd_pick_f rfl rfl rfl) ?_
     refine AL.r (rd_pick_f rfl rfl rfl) ?_
     refine AL.rm ?_
     refine AL.ro (rd_loadN_bx rfl ag_23 rfl rfl (Nat.le_of_ble_eq_true rfl) rfl) ?_
     refine AL.ro (rd_loadN_bx rfl ag_23 rfl rfl (Nat.le_of_ble_eq_true rfl) rfl) ?_
     refine AL.ro (rd_eq_Ref rfl rfl rfl) ?_
     refine AL.ro (rd_move rfl rfl) ?_
     refine AL.ro (rd_un rfl rfl (fun _ => rfl)) ?_
     refine AL.ro (rd_move rfl rfl) ?_
     refine AL.fk (d := 34) rfl (fun h34 => ?_) (fun h34 => ?_)
     ·skip
      refine AL.n ?_
      refine AL.ro (rd_move rfl rfl) ?_
      refine AL.ro (rd_un rfl rfl (fun _ => rfl)) ?_
      refine AL.ro (rd_pick_t rfl rfl rfl) ?_
      refine AL.ro (rd_bneq rfl bo_4 rfl rfl) ?_
      refine AL.r (rd_pick_f rfl rfl rfl) ?_
      refine AL.nil ?_
      change AW _ _ _ _ _
      refine AW.cd rfl (fun h39 => ?_) (fun h39 => ?_)
      ·skip
       refine AW.seq ?_
       refine AW.region ?_
       refine AL.ra ?_
       refine AL.nil ?_
       change AW _ _ _ _ _
       refine AW.ret ?_
       change ResA _ _ _ _ _
       refine res1 rfl (ResV.tmp rfl) rfl ?_
       first | rfl | (have t := @lessR_tri a b; have u := @lessR_asym a b; have i := lessR_irr a; have tr := @lessR_trans a b c; have ea : (RefD.mk a.scope a.group a.name = RefD.mk b.scope b.group b.name) = (a = b) := rfl; simp only [ea] at *; by_cases q : a = b <;> first | (subst q; simp_all; done) | (simp_all; done))
      ·skip
       refine AW.skip ?_
       change AW _ _ _ _ _
       refine AW.seq ?_
       refine AW.region ?_
       refine AL.rm ?_
       refine AL.r (rd_un rfl rfl (fun _ => rfl)) ?_
       refine AL.rm ?_
       refine AL.fk (d := 42) rfl (fun h42 => ?_) (fun h42 => ?_)
       ·skip
        refine AL.n ?_
        refine AL.rf ?_
        refine AL.rf ?_
        refine AL.rf ?_
        refine AL.rf ?_
        refine AL.r (rd_pick_t rfl rfl rfl) ?_
        refine AL.rm ?_
        refine AL.rf ?_
        refine AL.rf ?_
        refine AL.rf ?_
        refine AL.r (rd_pick_t rfl rfl rfl) ?_
        refine AL.ra ?_
        refine AL.nil ?_
        change AW _ _ _ _ _
        refine AW.ret ?_
        change ResA _ _ _ _ _
        refine res1 rfl (ResV.tmp rfl) rfl ?_
        first | rfl | (have t := @lessR_tri a b; have u := @lessR_asym a b; have i := lessR_irr a; have tr := @lessR_trans a b c; have ea : (RefD.mk a.scope a.group a.name = RefD.mk b.scope b.group b.name) = (a = b) := rfl; simp only [ea] at *; by_cases q : a = b <;> first | (subst q; simp_all; done) | (simp_all; done))
       ·skip
        refine AL.n ?_
        refine AL.ro (rd_loadN_bx rfl ag_23 rfl rfl (Nat.le_of_ble_eq_true rfl) rfl) ?_
        refine AL.ro (rd_loadN_bx rfl ag_23 rfl rfl (Nat.le_of_ble_eq_true rfl) rfl) ?_
        refine AL.on rfl rfl rfl (AOpB.op (op_call (less_c b c) rfl (by kernel_rfl) rfl (none) ?_))
        rintro r rfl
        refine AL.n ?_
        refine AL.ro (rd_un rfl rfl (fun _ => rfl)) ?_
        refine AL.r (rd_pick_f rfl rfl rfl) ?_
        refine AL.rm ?_
        refine AL.fk (d := 48) rfl (fun h48 => ?_) (fun h48 => ?_)
        ·skip
         refine AL.n ?_
         refine AL.rf ?_
         refine AL.rf ?_
         refine AL.rf ?_
         refine AL.r (rd_pick_t rfl rfl rfl) ?_
         refine AL.ra ?_
         refine AL.nil ?_
         change AW _ _ _ _ _
         refine AW.ret ?_
         change ResA _ _ _ _ _
         refine res1 rfl (ResV.tmp rfl) rfl ?_
         first | rfl | (have t := @lessR_tri a b; have u := @lessR_asym a b; have i := lessR_irr a; have tr := @lessR_trans a b c; have ea : (RefD.mk a.scope a.group a.name = RefD.mk b.scope b.group b.name) = (a = b) := rfl; simp only [ea] at *; by_cases q : a = b <;> first | (subst q; simp_all; done) | (simp_all; done))
        ·skip
         refine AL.n ?_
         refine AL.ro (rd_loadN_bx rfl ag_23 rfl rfl (Nat.le_of_ble_eq_true rfl) rfl) ?_
         refine AL.ro (rd_loadN_bx rfl ag_23 rfl rfl (Nat.le_of_ble_eq_true rfl) rfl) ?_
         refine AL.on rfl rfl rfl (AOpB.op (op_call (less_c a c) rfl (by kernel_rfl) rfl (none) ?_))
         rintro r rfl
         refine AL.n ?_
         refine AL.r (rd_pick_f rfl rfl rfl) ?_
         refine AL.ra ?_
         refine AL.nil ?_
         change AW _ _ _ _ _
         refine AW.ret ?_
         change ResA _ _ _ _ _
         refine res1 rfl (ResV.tmp rfl) rfl ?_
         first | rfl | (have t := @lessR_tri a b; have u := @lessR_asym a b; have i := lessR_irr a; have tr := @lessR_trans a b c; have ea : (RefD.mk a.scope a.group a.name = RefD.mk b.scope b.group b.name) = (a = b) := rfl; simp only [ea] at *; by_cases q : a = b <;> first | (subst q; simp_all; done) | (simp_all; done))
     ·skip
      refine AL.n ?_
      refine AL.rf ?_
      refine AL.rf ?_
      refine AL.ro (rd_pick_f rfl rfl rfl) ?_
      refine AL.ro (rd_bneq rfl bo_4 rfl rfl) ?_
      refine AL.r (rd_pick_f rfl rfl rfl) ?_
      refine AL.nil ?_
      change AW _ _ _ _ _
      refine AW.cd rfl (fun h39 => ?_) (fun h39 => ?_)
      ·skip
       refine AW.seq ?_
       refine AW.region ?_
       refine AL.ra ?_
       refine AL.nil ?_
       change AW _ _ _ _ _
       refine AW.ret ?_
       change ResA _ _ _ _ _
       refine res1 rfl (ResV.tmp rfl) rfl ?_
       first | rfl | (have t := @lessR_tri a b; have u := @lessR_asym a b; have i := lessR_irr a; have tr := @lessR_trans a b c; have ea : (RefD.mk a.scope a.group a.name = RefD.mk b.scope b.group b.name) = (a = b) := rfl; simp only [ea] at *; by_cases q : a = b <;> first | (subst q; simp_all; done) | (simp_all; done))
      ·skip
       refine AW.skip ?_
       change AW _ _ _ _ _
       refine AW.seq ?_
       refine AW.region ?_
       refine AL.rm ?_
       refine AL.r (rd_un rfl rfl (fun _ => rfl)) ?_
       refine AL.rm ?_
       refine AL.fk (d := 42) rfl (fun h42 => ?_) (fun h42 => ?_)
       ·skip
        refine AL.n ?_
        refine AL.rf ?_
        refine AL.rf ?_
        refine AL.rf ?_
        refine AL.rf ?_
        refine AL.r (rd_pick_t rfl rfl rfl) ?_
        refine AL.rm ?_
        refine AL.rf ?_
        refine AL.rf ?_
        refine AL.rf ?_
        refine AL.r (rd_pick_t rfl rfl rfl) ?_
        refine AL.ra ?_
        refine AL.nil ?_
        change AW _ _ _ _ _
        refine AW.ret ?_
        change ResA _ _ _ _ _
        refine res1 rfl (ResV.tmp rfl) rfl ?_
        first | rfl | (have t := @lessR_tri a b; have u := @lessR_asym a b; have i := lessR_irr a; have tr := @lessR_trans a b c; have ea : (RefD.mk a.scope a.group a.name = RefD.mk b.scope b.group b.name) = (a = b) := rfl; simp only [ea] at *; by_cases q : a = b <;> first | (subst q; simp_all; done) | (simp_all; done))
       ·skip
        refine AL.n ?_
        refine AL.ro (rd_loadN_bx rfl ag_23 rfl rfl (Nat.le_of_ble_eq_true rfl) rfl) ?_
        refine AL.ro (rd_loadN_bx rfl ag_23 rfl rfl (Nat.le_of_ble_eq_true rfl) rfl) ?_
        refine AL.on rfl rfl rfl (AOpB.op (op_call (less_c b c) rfl (by kernel_rfl) rfl (none) ?_))
        rintro r rfl
        refine AL.n ?_
        refine AL.ro (rd_un rfl rfl (fun _ => rfl)) ?_
        refine AL.r (rd_pick_f rfl rfl rfl) ?_
        refine AL.rm ?_
        refine AL.fk (d := 48) rfl (fun h48 => ?_) (fun h48 => ?_)
        ·skip
         refine AL.n ?_
         refine AL.rf ?_
         refine AL.rf ?_
         refine AL.rf ?_
         refine AL.r (rd_pick_t rfl rfl rfl) ?_
         refine AL.ra ?_
         refine AL.nil ?_
         change AW _ _ _ _ _
         refine AW.ret ?_
         change ResA _ _ _ _ _
         refine res1 rfl (ResV.tmp rfl) rfl ?_
         first | rfl | (have t := @lessR_tri a b; have u := @lessR_asym a b; have i := lessR_irr a; have tr := @lessR_trans a b c; have ea : (RefD.mk a.scope a.group a.name = RefD.mk b.scope b.group b.name) = (a = b) := rfl; simp only [ea] at *; by_cases q : a = b <;> first | (subst q; simp_all; done) | (simp_all; done))
        ·skip
         refine AL.n ?_
         refine AL.ro (rd_loadN_bx rfl ag_23 rfl rfl (Nat.le_of_ble_eq_true rfl) rfl) ?_
         refine AL.ro (rd_loadN_bx rfl ag_23 rfl rfl (Nat.le_of_ble_eq_true rfl) rfl) ?_
         refine AL.on rfl rfl rfl (AOpB.op (op_call (less_c a c) rfl (by kernel_rfl) rfl (none) ?_))
         rintro r rfl
         refine AL.n ?_
         refine AL.r (rd_pick_f rfl rfl rfl) ?_
         refine AL.ra ?_
         refine AL.nil ?_
         change AW _ _ _ _ _
         refine AW.ret ?_
         change ResA _ _ _ _ _
         refine res1 rfl (ResV.tmp rfl) rfl ?_
         first | rfl | (have t := @lessR_tri a b; have u := @lessR_asym a b; have i := lessR_irr a; have tr := @lessR_trans a b c; have ea : (RefD.mk a.scope a.group a.name = RefD.mk b.scope b.group b.name) = (a = b) := rfl; simp only [ea] at *; by_cases q : a = b <;> first | (subst q; simp_all; done) | (simp_all; done))
theorem walk_FieldOrders (w : World) (v0 : Value) (rf0 : RefD) (rp0 : RepS AnyB w v0 rf0.av) (v1 : Value) (rf1 : RefD) (rp1 : RepS AnyB w v1 rf1.av) (v2 : Value) (rf2 : RefD) (rp2 : RepS AnyB w v2 rf2.av) :
    Calls Tryd.prog 4 #[v0, v1, v2] w fun e w' => e = .returned (.bool true) ∧ Below w.heap.size w w' :=
  (forders_c rf0 rf1 rf2).law (vs := [v0, v1, v2]) rfl (rep_cons rp0 (rep_cons rp1 (rep_cons rp2 rep_nil)))
end Go.Proofs.YtpkjlmaphhileaaDoor
