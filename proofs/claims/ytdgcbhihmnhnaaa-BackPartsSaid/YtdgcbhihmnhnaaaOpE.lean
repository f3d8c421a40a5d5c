/- Whether an op is right, and fits a schema, walked over abstract states. The walks of the law OpOrders' example: kind 3, no drops. -/
import Derived.Test.YtdgcbhihmnhnaaaOpD
import Derived.Test.YtdgcbhihmnhnaaaStx
namespace Go.Proofs.Ytdgcbhihmnhnaaa
set_option linter.unusedSimpArgs false
set_option linter.unusedVariables false
set_option maxRecDepth 100000
open Go.RowKit

theorem opD_iff (a b : OpD) : a = b ↔ a.id = b.id ∧ a.schema = b.schema ∧ a.time = b.time ∧ a.cart = b.cart ∧ a.kind = b.kind ∧ a.item = b.item ∧ a.at_ = b.at_ ∧ a.delta = b.delta ∧ a.has = b.has ∧ a.text = b.text ∧ a.drops = b.drops := by
  cases a; cases b; simp
theorem tagD_iff (a b : TagD) : a = b ↔ a.rep = b.rep ∧ a.n = b.n := by cases a; cases b; simp
theorem refD_iff (a b : RefD) : a = b ↔ a.scope = b.scope ∧ a.group = b.group ∧ a.name = b.name := by cases a; cases b; simp
/-- The parts of an op of kind 3. -/
def parts3 (o : OpD) : OpD := ⟨o.id, o.schema, o.time, o.cart, o.kind, if o.at_.scope = 1 then o.item else [], o.at_, o.delta, false, [], []⟩
set_option maxHeartbeats 1000000 in
theorem parts3_c (o : OpD) (h : o.kind = 3) : AC Try.prog 167 [o.av] (fun r => r = .s (.tu [(parts3 o).av, AB true])) := by
  change AC _ _ [.ag [AI o.id.rep, AI o.id.n, AI o.schema.rep, AI o.schema.n, AI o.time, AS o.cart, AI o.kind, AS o.item, AI o.at_.scope, AS o.at_.group, AS o.at_.name, AI o.delta, AB o.has, AS o.text, .sl (o.drops.map TagD.cs)]] _
  refine AC.of' 72 3 Try.func167 rfl ?_
  change AW _ _ _ _ [TK.mk 0 .off, TK.mk 0 .off, TK.mk 0 .off]
  refine AW.seq ?_
  refine AW.region ?_
  refine AL.op rfl (AOpB.op (op_box 0 rfl rfl rfl rfl rfl ?_))
  refine AL.n ?_
  refine AL.op rfl (AOpB.op (op_alloc 1 rfl ze_132 rfl ?_))
  refine AL.n ?_
  refine AL.ra ?_
  refine AL.nil ?_
  change AW _ _ _ _ _
  refine AW.seq ?_
  refine AW.region ?_
  refine AL.r (rd_faddr_bx rfl fo_132_0 rfl rfl ⟨_, _, rfl⟩) ?_
  refine AL.r (rd_loadN_bx rfl ag_124 rfl rfl (Nat.le_of_ble_eq_true rfl) rfl) ?_
  refine AL.r (rd_faddr_bx rfl fo_132_1 rfl rfl ⟨_, _, rfl⟩) ?_
  refine AL.r (rd_loadN_bx rfl ag_124 rfl rfl (Nat.le_of_ble_eq_true rfl) rfl) ?_
  refine AL.r (rd_faddr_bx rfl fo_132_2 rfl rfl ⟨_, _, rfl⟩) ?_
  refine AL.r (rd_load_bx rfl ag_2 rfl rfl rfl) ?_
  refine AL.r (rd_faddr_bx rfl fo_132_3 rfl rfl ⟨_, _, rfl⟩) ?_
  refine AL.r (rd_load_bx rfl ag_9 rfl rfl rfl) ?_
  refine AL.r (rd_faddr_bx rfl fo_132_4 rfl rfl ⟨_, _, rfl⟩) ?_
  refine AL.r (rd_load_bx rfl ag_3 rfl rfl rfl) ?_
  refine AL.r (rd_build rfl pl_132 ze_132 rfl rfl) ?_
  refine AL.op rfl (AOpB.op (op_alloc 2 rfl ze_132 rfl ?_))
  refine AL.n ?_
  refine AL.op rfl (op_store_ rfl rfl rfl rfl rfl sz_132 ?_)
  refine AL.b ?_
  refine AL.nil ?_
  change AW _ _ _ _ _
  refine AW.seq ?_
  refine AW.seq ?_
  refine AW.region ?_
  refine AL.b ?_
  refine AL.r (rd_faddr_bx rfl fo_132_4 rfl rfl ⟨_, _, rfl⟩) ?_
  refine AL.r (rd_load_bx rfl ag_3 rfl rfl rfl) ?_
  refine AL.nil ?_
  change AW _ _ _ _ _
  refine AW.block ?_
  refine AW.seq ?_
  refine AW.region ?_
  refine AL.r (rd_bin rfl rfl rfl (fun _ => rfl)) ?_
  refine AL.ra ?_
  refine AL.nil ?_
  change AW _ _ _ _ _
  refine AW.cd rfl (fun h19 => ?_) (fun h19 => ?_)
  ·skip
   omega
  ·skip
   refine AW.seq ?_
   refine AW.region ?_
   refine AL.r (rd_bin rfl rfl rfl (fun _ => rfl)) ?_
   refine AL.ra ?_
   refine AL.nil ?_
   change AW _ _ _ _ _
   refine AW.cd rfl (fun h24 => ?_) (fun h24 => ?_)
   ·skip
    omega
   ·skip
    refine AW.seq ?_
    refine AW.region ?_
    refine AL.r (rd_bin rfl rfl rfl (fun _ => rfl)) ?_
    refine AL.ra ?_
    refine AL.nil ?_
    change AW _ _ _ _ _
    refine AW.cd rfl (fun h32 => ?_) (fun h32 => ?_)
    ·skip
     refine AW.drawX 2 (by kernel_rfl) ?_
     refine ADX.r 0 rfl (rdX_faddr_bx rfl fo_132_6 rfl rfl ⟨_, _, rfl⟩) rfl ?_
     refine ADX.r 1 rfl (rdX_loadN_bx rfl ag_44 rfl rfl (Nat.le_of_ble_eq_true rfl) rfl) rfl ?_
     refine ADX.r 2 rfl (rdX_faddr_bx rfl fo_132_7 rfl rfl ⟨_, _, rfl⟩) rfl ?_
     refine ADX.r 3 rfl (rdX_load_bx rfl ag_2 rfl rfl rfl) rfl ?_
     refine ADX.r 4 rfl (rdX_faddr_bx rfl fo_132_6 rfl rfl ⟨_, _, rfl⟩) rfl ?_
     refine ADX.stor 5 rfl (by kernel_rfl) rfl rfl rfl rfl rfl rfl sz_44 ?_
     refine ADX.n ?_
     refine ADX.r 6 rfl (rdX_faddr_bx rfl fo_132_7 rfl rfl ⟨_, _, rfl⟩) rfl ?_
     refine ADX.stor 7 rfl (by kernel_rfl) rfl rfl rfl rfl rfl rfl sz_2 ?_
     refine ADX.n ?_
     refine ADX.done (by kernel_rfl) ?_
     change AW _ _ _ _ _
     refine AW.seq ?_
     refine AW.seq ?_
     refine AW.region ?_
     refine AL.r (rd_loadN_bx rfl ag_132 rfl rfl (Nat.le_of_ble_eq_true rfl) rfl) ?_
     refine AL.op rfl (AOpB.op (op_call (placed_c o) rfl (by kernel_rfl) rfl (none) ?_))
     rintro r rfl
     refine AL.n ?_
     refine AL.rm ?_
     refine AL.fk (d := 63) rfl (fun h63 => ?_) (fun h63 => ?_)
     ·skip
      refine AL.n ?_
      refine AL.ro (rd_faddr_bx rfl fo_132_6 rfl rfl ⟨_, _, rfl⟩) ?_
      refine AL.ro (rd_faddr_bx rfl fo_44_0 rfl rfl ⟨_, _, rfl⟩) ?_
      refine AL.ro (rd_load_bx rfl ag_3 rfl rfl rfl) ?_
      refine AL.ro (rd_bin rfl rfl rfl (fun _ => rfl)) ?_
      refine AL.r (rd_pick_t rfl rfl rfl) ?_
      refine AL.nil ?_
      change AW _ _ _ _ _
      refine AW.cd rfl (fun h68 => ?_) (fun h68 => ?_)
      ·skip
       refine AW.region ?_
       refine AL.r (rd_faddr_bx rfl fo_132_5 rfl rfl ⟨_, _, rfl⟩) ?_
       refine AL.r (rd_load_bx rfl ag_9 rfl rfl rfl) ?_
       refine AL.r (rd_faddr_bx rfl fo_132_5 rfl rfl ⟨_, _, rfl⟩) ?_
       refine AL.op rfl (op_store_ rfl rfl rfl rfl rfl sz_9 ?_)
       refine AL.b ?_
       refine AL.nil ?_
       change AW _ _ _ _ _
       refine AW.seq ?_
       refine AW.region ?_
       refine AL.r (rd_loadN_bx rfl ag_132 rfl rfl (Nat.le_of_ble_eq_true rfl) rfl) ?_
       refine AL.op rfl (op_store_ rfl rfl rfl rfl rfl sz_132 ?_)
       refine AL.b ?_
       refine AL.ra ?_
       refine AL.nil ?_
       change AW _ _ _ _ _
       refine AW.ret ?_
       change ResA _ _ _ _ _
       refine res2 rfl (ResV.cells rfl rfl ag_132 (Nat.le_of_ble_eq_true rfl) rfl) rfl (ResV.tmp rfl) rfl ?_
       simp_all [parts3, OpD.cs]
      ·skip
       refine AW.skip ?_
       change AW _ _ _ _ _
       refine AW.seq ?_
       refine AW.region ?_
       refine AL.r (rd_loadN_bx rfl ag_132 rfl rfl (Nat.le_of_ble_eq_true rfl) rfl) ?_
       refine AL.op rfl (op_store_ rfl rfl rfl rfl rfl sz_132 ?_)
       refine AL.b ?_
       refine AL.ra ?_
       refine AL.nil ?_
       change AW _ _ _ _ _
       refine AW.ret ?_
       change ResA _ _ _ _ _
       refine res2 rfl (ResV.cells rfl rfl ag_132 (Nat.le_of_ble_eq_true rfl) rfl) rfl (ResV.tmp rfl) rfl ?_
       simp_all [parts3, OpD.cs]
     ·skip
      refine AL.n ?_
      refine AL.rf ?_
      refine AL.rf ?_
      refine AL.rf ?_
      refine AL.rf ?_
      refine AL.r (rd_pick_f rfl rfl rfl) ?_
      refine AL.nil ?_
      change AW _ _ _ _ _
      refine AW.cond_f rfl ?_
      refine AW.skip ?_
      change AW _ _ _ _ _
      refine AW.seq ?_
      refine AW.region ?_
      refine AL.r (rd_loadN_bx rfl ag_132 rfl rfl (Nat.le_of_ble_eq_true rfl) rfl) ?_
      refine AL.op rfl (op_store_ rfl rfl rfl rfl rfl sz_132 ?_)
      refine AL.b ?_
      refine AL.ra ?_
      refine AL.nil ?_
      change AW _ _ _ _ _
      refine AW.ret ?_
      change ResA _ _ _ _ _
      refine res2 rfl (ResV.cells rfl rfl ag_132 (Nat.le_of_ble_eq_true rfl) rfl) rfl (ResV.tmp rfl) rfl ?_
      simp_all [parts3, OpD.cs]
    ·skip
     refine AW.seq ?_
     omega
theorem osame_c (a b : OpD) : AC Try.prog 168 [a.av, b.av] (fun r => r = .s (AB (decide (a = b)))) := by
  refine AC.of' 78 2 Try.func168 rfl ?_
  change AW _ _ _ _ [TK.mk 0 .off, TK.mk 0 .off]
  refine AW.seq ?_
  refine AW.region ?_
  refine AL.op rfl (AOpB.op (op_box 0 rfl rfl rfl rfl rfl ?_))
  refine AL.n ?_
  refine AL.op rfl (AOpB.op (op_box 1 rfl rfl rfl rfl rfl ?_))
  refine AL.n ?_
  refine AL.ra ?_
  refine AL.nil ?_
  change AW _ _ _ _ _
  refine AW.seq ?_
  refine AW.region ?_
  refine AL.r (rd_faddr_bx rfl fo_132_0 rfl rfl ⟨_, _, rfl⟩) ?_
  refine AL.r (rd_loadN_bx rfl ag_124 rfl rfl (Nat.le_of_ble_eq_true rfl) rfl) ?_
  refine AL.r (rd_faddr_bx rfl fo_132_0 rfl rfl ⟨_, _, rfl⟩) ?_
  refine AL.r (rd_loadN_bx rfl ag_124 rfl rfl (Nat.le_of_ble_eq_true rfl) rfl) ?_
  refine AL.r (rd_eq_Tag rfl rfl rfl) ?_
  refine AL.rm ?_
  refine AL.fk (d := 10) rfl (fun h10 => ?_) (fun h10 => ?_)
  ·skip
   refine AL.n ?_
   refine AL.ro (rd_faddr_bx rfl fo_132_1 rfl rfl ⟨_, _, rfl⟩) ?_
   refine AL.ro (rd_loadN_bx rfl ag_124 rfl rfl (Nat.le_of_ble_eq_true rfl) rfl) ?_
   refine AL.ro (rd_faddr_bx rfl fo_132_1 rfl rfl ⟨_, _, rfl⟩) ?_
   refine AL.ro (rd_loadN_bx rfl ag_124 rfl rfl (Nat.le_of_ble_eq_true rfl) rfl) ?_
   refine AL.ro (rd_eq_Tag rfl rfl rfl) ?_
   refine AL.r (rd_pick_t rfl rfl rfl) ?_
   refine AL.rm ?_
   refine AL.fk (d := 17) rfl (fun h17 => ?_) (fun h17 => ?_)
   ·skip
    refine AL.n ?_
    refine AL.ro (rd_faddr_bx rfl fo_132_2 rfl rfl ⟨_, _, rfl⟩) ?_
    refine AL.ro (rd_load_bx rfl ag_2 rfl rfl rfl) ?_
    refine AL.ro (rd_faddr_bx rfl fo_132_2 rfl rfl ⟨_, _, rfl⟩) ?_
    refine AL.ro (rd_load_bx rfl ag_2 rfl rfl rfl) ?_
    refine AL.ro (rd_bin rfl rfl rfl (fun _ => rfl)) ?_
    refine AL.r (rd_pick_t rfl rfl rfl) ?_
    refine AL.rm ?_
    refine AL.fk (d := 24) rfl (fun h24 => ?_) (fun h24 => ?_)
    ·skip
     refine AL.n ?_
     refine AL.ro (rd_faddr_bx rfl fo_132_3 rfl rfl ⟨_, _, rfl⟩) ?_
     refine AL.ro (rd_load_bx rfl ag_9 rfl rfl rfl) ?_
     refine AL.ro (rd_faddr_bx rfl fo_132_3 rfl rfl ⟨_, _, rfl⟩) ?_
     refine AL.ro (rd_load_bx rfl ag_9 rfl rfl rfl) ?_
     refine AL.ro (rd_seq rfl rfl rfl) ?_
     refine AL.r (rd_pick_t rfl rfl rfl) ?_
     refine AL.rm ?_
     refine AL.fk (d := 31) rfl (fun h31 => ?_) (fun h31 => ?_)
     ·skip
      refine AL.n ?_
      refine AL.ro (rd_faddr_bx rfl fo_132_4 rfl rfl ⟨_, _, rfl⟩) ?_
      refine AL.ro (rd_load_bx rfl ag_3 rfl rfl rfl) ?_
      refine AL.ro (rd_faddr_bx rfl fo_132_4 rfl rfl ⟨_, _, rfl⟩) ?_
      refine AL.ro (rd_load_bx rfl ag_3 rfl rfl rfl) ?_
      refine AL.ro (rd_bin rfl rfl rfl (fun _ => rfl)) ?_
      refine AL.r (rd_pick_t rfl rfl rfl) ?_
      refine AL.rm ?_
      refine AL.fk (d := 38) rfl (fun h38 => ?_) (fun h38 => ?_)
      ·skip
       refine AL.n ?_
       refine AL.ro (rd_faddr_bx rfl fo_132_5 rfl rfl ⟨_, _, rfl⟩) ?_
       refine AL.ro (rd_load_bx rfl ag_9 rfl rfl rfl) ?_
       refine AL.ro (rd_faddr_bx rfl fo_132_5 rfl rfl ⟨_, _, rfl⟩) ?_
       refine AL.ro (rd_load_bx rfl ag_9 rfl rfl rfl) ?_
       refine AL.ro (rd_seq rfl rfl rfl) ?_
       refine AL.r (rd_pick_t rfl rfl rfl) ?_
       refine AL.rm ?_
       refine AL.fk (d := 45) rfl (fun h45 => ?_) (fun h45 => ?_)
       ·skip
        refine AL.n ?_
        refine AL.ro (rd_faddr_bx rfl fo_132_6 rfl rfl ⟨_, _, rfl⟩) ?_
        refine AL.ro (rd_loadN_bx rfl ag_44 rfl rfl (Nat.le_of_ble_eq_true rfl) rfl) ?_
        refine AL.ro (rd_faddr_bx rfl fo_132_6 rfl rfl ⟨_, _, rfl⟩) ?_
        refine AL.ro (rd_loadN_bx rfl ag_44 rfl rfl (Nat.le_of_ble_eq_true rfl) rfl) ?_
        refine AL.ro (rd_eq_Ref rfl rfl rfl) ?_
        refine AL.r (rd_pick_t rfl rfl rfl) ?_
        refine AL.rm ?_
        refine AL.fk (d := 52) rfl (fun h52 => ?_) (fun h52 => ?_)
        ·skip
         refine AL.n ?_
         refine AL.ro (rd_faddr_bx rfl fo_132_7 rfl rfl ⟨_, _, rfl⟩) ?_
         refine AL.ro (rd_load_bx rfl ag_2 rfl rfl rfl) ?_
         refine AL.ro (rd_faddr_bx rfl fo_132_7 rfl rfl ⟨_, _, rfl⟩) ?_
         refine AL.ro (rd_load_bx rfl ag_2 rfl rfl rfl) ?_
         refine AL.ro (rd_bin rfl rfl rfl (fun _ => rfl)) ?_
         refine AL.r (rd_pick_t rfl rfl rfl) ?_
         refine AL.rm ?_
         refine AL.fk (d := 59) rfl (fun h59 => ?_) (fun h59 => ?_)
         ·skip
          refine AL.n ?_
          refine AL.ro (rd_faddr_bx rfl fo_132_8 rfl rfl ⟨_, _, rfl⟩) ?_
          refine AL.ro (rd_load_bx rfl ag_4 rfl rfl rfl) ?_
          refine AL.ro (rd_faddr_bx rfl fo_132_8 rfl rfl ⟨_, _, rfl⟩) ?_
          refine AL.ro (rd_load_bx rfl ag_4 rfl rfl rfl) ?_
          refine AL.ro (rd_beql rfl bo_4 rfl rfl) ?_
          refine AL.r (rd_pick_t rfl rfl rfl) ?_
          refine AL.rm ?_
          refine AL.fk (d := 66) rfl (fun h66 => ?_) (fun h66 => ?_)
          ·skip
           refine AL.n ?_
           refine AL.ro (rd_faddr_bx rfl fo_132_9 rfl rfl ⟨_, _, rfl⟩) ?_
           refine AL.ro (rd_load_bx rfl ag_9 rfl rfl rfl) ?_
           refine AL.ro (rd_faddr_bx rfl fo_132_9 rfl rfl ⟨_, _, rfl⟩) ?_
           refine AL.ro (rd_load_bx rfl ag_9 rfl rfl rfl) ?_
           refine AL.ro (rd_seq rfl rfl rfl) ?_
           refine AL.r (rd_pick_t rfl rfl rfl) ?_
           refine AL.rm ?_
           refine AL.fk (d := 73) rfl (fun h73 => ?_) (fun h73 => ?_)
           ·skip
            refine AL.n ?_
            refine AL.ro (rd_faddr_bx rfl fo_132_10 rfl rfl ⟨_, _, rfl⟩) ?_
            refine AL.ro (rd_load_bx rfl ag_70 rfl rfl rfl) ?_
            refine AL.ro (rd_faddr_bx rfl fo_132_10 rfl rfl ⟨_, _, rfl⟩) ?_
            refine AL.ro (rd_load_bx rfl ag_70 rfl rfl rfl) ?_
            refine AL.on rfl rfl rfl (AOpB.op (op_call (tequal_c a.drops b.drops) rfl (by kernel_rfl) rfl (none) ?_))
            rintro r rfl
            refine AL.n ?_
            refine AL.r (rd_pick_t rfl rfl rfl) ?_
            refine AL.ra ?_
            refine AL.nil ?_
            change AW _ _ _ _ _
            refine AW.ret ?_
            change ResA _ _ _ _ _
            refine res1 rfl (ResV.tmp rfl) rfl ?_
            (refine congrArg (fun b => RS.s (AB b)) ?_; rw [Bool.eq_iff_iff]; simp_all [opD_iff, tagD_iff, refD_iff] <;> (intros; simp_all))
           ·skip
            refine AL.n ?_
            refine AL.rf ?_
            refine AL.rf ?_
            refine AL.rf ?_
            refine AL.rf ?_
            refine AL.rf ?_
            refine AL.r (rd_pick_f rfl rfl rfl) ?_
            refine AL.ra ?_
            refine AL.nil ?_
            change AW _ _ _ _ _
            refine AW.ret ?_
            change ResA _ _ _ _ _
            refine res1 rfl (ResV.tmp rfl) rfl ?_
            (refine congrArg (fun b => RS.s (AB b)) ?_; rw [Bool.eq_iff_iff]; simp_all [opD_iff, tagD_iff, refD_iff] <;> (intros; simp_all))
          ·skip
           refine AL.n ?_
           refine AL.rf ?_
           refine AL.rf ?_
           refine AL.rf ?_
           refine AL.rf ?_
           refine AL.rf ?_
           refine AL.r (rd_pick_f rfl rfl rfl) ?_
           refine AL.rm ?_
           refine AL.rf ?_
           refine AL.rf ?_
           refine AL.rf ?_
           refine AL.rf ?_
           refine AL.rf ?_
           refine AL.r (rd_pick_f rfl rfl rfl) ?_
           refine AL.ra ?_
           refine AL.nil ?_
           change AW _ _ _ _ _
           refine AW.ret ?_
           change ResA _ _ _ _ _
           refine res1 rfl (ResV.tmp rfl) rfl ?_
           (refine congrArg (fun b => RS.s (AB b)) ?_; rw [Bool.eq_iff_iff]; simp_all [opD_iff, tagD_iff, refD_iff] <;> (intros; simp_all))
         ·skip
          refine AL.n ?_
          refine AL.rf ?_
          refine AL.rf ?_
          refine AL.rf ?_
          refine AL.rf ?_
          refine AL.rf ?_
          refine AL.r (rd_pick_f rfl rfl rfl) ?_
          refine AL.rm ?_
          refine AL.rf ?_
          refine AL.rf ?_
          refine AL.rf ?_
          refine AL.rf ?_
          refine AL.rf ?_
          refine AL.r (rd_pick_f rfl rfl rfl) ?_
          refine AL.rm ?_
          refine AL.rf ?_
          refine AL.rf ?_
          refine AL.rf ?_
          refine AL.rf ?_
          refine AL.rf ?_
          refine AL.r (rd_pick_f rfl rfl rfl) ?_
          refine AL.ra ?_
          refine AL.nil ?_
          change AW _ _ _ _ _
          refine AW.ret ?_
          change ResA _ _ _ _ _
          refine res1 rfl (ResV.tmp rfl) rfl ?_
          (refine congrArg (fun b => RS.s (AB b)) ?_; rw [Bool.eq_iff_iff]; simp_all [opD_iff, tagD_iff, refD_iff] <;> (intros; simp_all))
        ·skip
         refine AL.n ?_
         refine AL.rf ?_
         refine AL.rf ?_
         refine AL.rf ?_
         refine AL.rf ?_
         refine AL.rf ?_
         refine AL.r (rd_pick_f rfl rfl rfl) ?_
         refine AL.rm ?_
         refine AL.rf ?_
         refine AL.rf ?_
         refine AL.rf ?_
         refine AL.rf ?_
         refine AL.rf ?_
         refine AL.r (rd_pick_f rfl rfl rfl) ?_
         refine AL.rm ?_
         refine AL.rf ?_
         refine AL.rf ?_
         refine AL.rf ?_
         refine AL.rf ?_
         refine AL.rf ?_
         refine AL.r (rd_pick_f rfl rfl rfl) ?_
         refine AL.rm ?_
         refine AL.rf ?_
         refine AL.rf ?_
         refine AL.rf ?_
         refine AL.rf ?_
         refine AL.rf ?_
         refine AL.r (rd_pick_f rfl rfl rfl) ?_
         refine AL.ra ?_
         refine AL.nil ?_
         change AW _ _ _ _ _
         refine AW.ret ?_
         change ResA _ _ _ _ _
         refine res1 rfl (ResV.tmp rfl) rfl ?_
         (refine congrArg (fun b => RS.s (AB b)) ?_; rw [Bool.eq_iff_iff]; simp_all [opD_iff, tagD_iff, refD_iff] <;> (intros; simp_all))
       ·skip
        refine AL.n ?_
        refine AL.rf ?_
        refine AL.rf ?_
        refine AL.rf ?_
        refine AL.rf ?_
        refine AL.rf ?_
        refine AL.r (rd_pick_f rfl rfl rfl) ?_
        refine AL.rm ?_
        refine AL.rf ?_
        refine AL.rf ?_
        refine AL.rf ?_
        refine AL.rf ?_
        refine AL.rf ?_
        refine AL.r (rd_pick_f rfl rfl rfl) ?_
        refine AL.rm ?_
        refine AL.rf ?_
        refine AL.rf ?_
        refine AL.rf ?_
        refine AL.rf ?_
        refine AL.rf ?_
        refine AL.r (rd_pick_f rfl rfl rfl) ?_
        refine AL.rm ?_
        refine AL.rf ?_
        refine AL.rf ?_
        refine AL.rf ?_
        refine AL.rf ?_
        refine AL.rf ?_
        refine AL.r (rd_pick_f rfl rfl rfl) ?_
        refine AL.rm ?_
        refine AL.rf ?_
        refine AL.rf ?_
        refine AL.rf ?_
        refine AL.rf ?_
        refine AL.rf ?_
        refine AL.r (rd_pick_f rfl rfl rfl) ?_
        refine AL.ra ?_
        refine AL.nil ?_
        change AW _ _ _ _ _
        refine AW.ret ?_
        change ResA _ _ _ _ _
        refine res1 rfl (ResV.tmp rfl) rfl ?_
        (refine congrArg (fun b => RS.s (AB b)) ?_; rw [Bool.eq_iff_iff]; simp_all [opD_iff, tagD_iff, refD_iff] <;> (intros; simp_all))
      ·skip
       refine AL.n ?_
       refine AL.rf ?_
       refine AL.rf ?_
       refine AL.rf ?_
       refine AL.rf ?_
       refine AL.rf ?_
       refine AL.r (rd_pick_f rfl rfl rfl) ?_
       refine AL.rm ?_
       refine AL.rf ?_
       refine AL.rf ?_
       refine AL.rf ?_
       refine AL.rf ?_
       refine AL.rf ?_
       refine AL.r (rd_pick_f rfl rfl rfl) ?_
       refine AL.rm ?_
       refine AL.rf ?_
       refine AL.rf ?_
       refine AL.rf ?_
       refine AL.rf ?_
       refine AL.rf ?_
       refine AL.r (rd_pick_f rfl rfl rfl) ?_
       refine AL.rm ?_
       refine AL.rf ?_
       refine AL.rf ?_
       refine AL.rf ?_
       refine AL.rf ?_
       refine AL.rf ?_
       refine AL.r (rd_pick_f rfl rfl rfl) ?_
       refine AL.rm ?_
       refine AL.rf ?_
       refine AL.rf ?_
       refine AL.rf ?_
       refine AL.rf ?_
       refine AL.rf ?_
       refine AL.r (rd_pick_f rfl rfl rfl) ?_
       refine AL.rm ?_
       refine AL.rf ?_
       refine AL.rf ?_
       refine AL.rf ?_
       refine AL.rf ?_
       refine AL.rf ?_
       refine AL.r (rd_pick_f rfl rfl rfl) ?_
       refine AL.ra ?_
       refine AL.nil ?_
       change AW _ _ _ _ _
       refine AW.ret ?_
       change ResA _ _ _ _ _
       refine res1 rfl (ResV.tmp rfl) rfl ?_
       (refine congrArg (fun b => RS.s (AB b)) ?_; rw [Bool.eq_iff_iff]; simp_all [opD_iff, tagD_iff, refD_iff] <;> (intros; simp_all))
     ·skip
      refine AL.n ?_
      refine AL.rf ?_
      refine AL.rf ?_
      refine AL.rf ?_
      refine AL.rf ?_
      refine AL.rf ?_
      refine AL.r (rd_pick_f rfl rfl rfl) ?_
      refine AL.rm ?_
      refine AL.rf ?_
      refine AL.rf ?_
      refine AL.rf ?_
      refine AL.rf ?_
      refine AL.rf ?_
      refine AL.r (rd_pick_f rfl rfl rfl) ?_
      refine AL.rm ?_
      refine AL.rf ?_
      refine AL.rf ?_
      refine AL.rf ?_
      refine AL.rf ?_
      refine AL.rf ?_
      refine AL.r (rd_pick_f rfl rfl rfl) ?_
      refine AL.rm ?_
      refine AL.rf ?_
      refine AL.rf ?_
      refine AL.rf ?_
      refine AL.rf ?_
      refine AL.rf ?_
      refine AL.r (rd_pick_f rfl rfl rfl) ?_
      refine AL.rm ?_
      refine AL.rf ?_
      refine AL.rf ?_
      refine AL.rf ?_
      refine AL.rf ?_
      refine AL.rf ?_
      refine AL.r (rd_pick_f rfl rfl rfl) ?_
      refine AL.rm ?_
      refine AL.rf ?_
      refine AL.rf ?_
      refine AL.rf ?_
      refine AL.rf ?_
      refine AL.rf ?_
      refine AL.r (rd_pick_f rfl rfl rfl) ?_
      refine AL.rm ?_
      refine AL.rf ?_
      refine AL.rf ?_
      refine AL.rf ?_
      refine AL.rf ?_
      refine AL.rf ?_
      refine AL.r (rd_pick_f rfl rfl rfl) ?_
      refine AL.ra ?_
      refine AL.nil ?_
      change AW _ _ _ _ _
      refine AW.ret ?_
      change ResA _ _ _ _ _
      refine res1 rfl (ResV.tmp rfl) rfl ?_
      (refine congrArg (fun b => RS.s (AB b)) ?_; rw [Bool.eq_iff_iff]; simp_all [opD_iff, tagD_iff, refD_iff] <;> (intros; simp_all))
    ·skip
     refine AL.n ?_
     refine AL.rf ?_
     refine AL.rf ?_
     refine AL.rf ?_
     refine AL.rf ?_
     refine AL.rf ?_
     refine AL.r (rd_pick_f rfl rfl rfl) ?_
     refine AL.rm ?_
     refine AL.rf ?_
     refine AL.rf ?_
     refine AL.rf ?_
     refine AL.rf ?_
     refine AL.rf ?_
     refine AL.r (rd_pick_f rfl rfl rfl) ?_
     refine AL.rm ?_
     refine AL.rf ?_
     refine AL.rf ?_
     refine AL.rf ?_
     refine AL.rf ?_
     refine AL.rf ?_
     refine AL.r (rd_pick_f rfl rfl rfl) ?_
     refine AL.rm ?_
     refine AL.rf ?_
     refine AL.rf ?_
     refine AL.rf ?_
     refine AL.rf ?_
     refine AL.rf ?_
     refine AL.r (rd_pick_f rfl rfl rfl) ?_
     refine AL.rm ?_
     refine AL.rf ?_
     refine AL.rf ?_
     refine AL.rf ?_
     refine AL.rf ?_
     refine AL.rf ?_
     refine AL.r (rd_pick_f rfl rfl rfl) ?_
     refine AL.rm ?_
     refine AL.rf ?_
     refine AL.rf ?_
     refine AL.rf ?_
     refine AL.rf ?_
     refine AL.rf ?_
     refine AL.r (rd_pick_f rfl rfl rfl) ?_
     refine AL.rm ?_
     refine AL.rf ?_
     refine AL.rf ?_
     refine AL.rf ?_
     refine AL.rf ?_
     refine AL.rf ?_
     refine AL.r (rd_pick_f rfl rfl rfl) ?_
     refine AL.rm ?_
     refine AL.rf ?_
     refine AL.rf ?_
     refine AL.rf ?_
     refine AL.rf ?_
     refine AL.rf ?_
     refine AL.r (rd_pick_f rfl rfl rfl) ?_
     refine AL.ra ?_
     refine AL.nil ?_
     change AW _ _ _ _ _
     refine AW.ret ?_
     change ResA _ _ _ _ _
     refine res1 rfl (ResV.tmp rfl) rfl ?_
     (refine congrArg (fun b => RS.s (AB b)) ?_; rw [Bool.eq_iff_iff]; simp_all [opD_iff, tagD_iff, refD_iff] <;> (intros; simp_all))
   ·skip
    refine AL.n ?_
    refine AL.rf ?_
    refine AL.rf ?_
    refine AL.rf ?_
    refine AL.rf ?_
    refine AL.rf ?_
    refine AL.r (rd_pick_f rfl rfl rfl) ?_
    refine AL.rm ?_
    refine AL.rf ?_
    refine AL.rf ?_
    refine AL.rf ?_
    refine AL.rf ?_
    refine AL.rf ?_
    refine AL.r (rd_pick_f rfl rfl rfl) ?_
    refine AL.rm ?_
    refine AL.rf ?_
    refine AL.rf ?_
    refine AL.rf ?_
    refine AL.rf ?_
    refine AL.rf ?_
    refine AL.r (rd_pick_f rfl rfl rfl) ?_
    refine AL.rm ?_
    refine AL.rf ?_
    refine AL.rf ?_
    refine AL.rf ?_
    refine AL.rf ?_
    refine AL.rf ?_
    refine AL.r (rd_pick_f rfl rfl rfl) ?_
    refine AL.rm ?_
    refine AL.rf ?_
    refine AL.rf ?_
    refine AL.rf ?_
    refine AL.rf ?_
    refine AL.rf ?_
    refine AL.r (rd_pick_f rfl rfl rfl) ?_
    refine AL.rm ?_
    refine AL.rf ?_
    refine AL.rf ?_
    refine AL.rf ?_
    refine AL.rf ?_
    refine AL.rf ?_
    refine AL.r (rd_pick_f rfl rfl rfl) ?_
    refine AL.rm ?_
    refine AL.rf ?_
    refine AL.rf ?_
    refine AL.rf ?_
    refine AL.rf ?_
    refine AL.rf ?_
    refine AL.r (rd_pick_f rfl rfl rfl) ?_
    refine AL.rm ?_
    refine AL.rf ?_
    refine AL.rf ?_
    refine AL.rf ?_
    refine AL.rf ?_
    refine AL.rf ?_
    refine AL.r (rd_pick_f rfl rfl rfl) ?_
    refine AL.rm ?_
    refine AL.rf ?_
    refine AL.rf ?_
    refine AL.rf ?_
    refine AL.rf ?_
    refine AL.rf ?_
    refine AL.r (rd_pick_f rfl rfl rfl) ?_
    refine AL.ra ?_
    refine AL.nil ?_
    change AW _ _ _ _ _
    refine AW.ret ?_
    change ResA _ _ _ _ _
    refine res1 rfl (ResV.tmp rfl) rfl ?_
    (refine congrArg (fun b => RS.s (AB b)) ?_; rw [Bool.eq_iff_iff]; simp_all [opD_iff, tagD_iff, refD_iff] <;> (intros; simp_all))
  ·skip
   refine AL.n ?_
   refine AL.rf ?_
   refine AL.rf ?_
   refine AL.rf ?_
   refine AL.rf ?_
   refine AL.rf ?_
   refine AL.r (rd_pick_f rfl rfl rfl) ?_
   refine AL.rm ?_
   refine AL.rf ?_
   refine AL.rf ?_
   refine AL.rf ?_
   refine AL.rf ?_
   refine AL.rf ?_
   refine AL.r (rd_pick_f rfl rfl rfl) ?_
   refine AL.rm ?_
   refine AL.rf ?_
   refine AL.rf ?_
   refine AL.rf ?_
   refine AL.rf ?_
   refine AL.rf ?_
   refine AL.r (rd_pick_f rfl rfl rfl) ?_
   refine AL.rm ?_
   refine AL.rf ?_
   refine AL.rf ?_
   refine AL.rf ?_
   refine AL.rf ?_
   refine AL.rf ?_
   refine AL.r (rd_pick_f rfl rfl rfl) ?_
   refine AL.rm ?_
   refine AL.rf ?_
   refine AL.rf ?_
   refine AL.rf ?_
   refine AL.rf ?_
   refine AL.rf ?_
   refine AL.r (rd_pick_f rfl rfl rfl) ?_
   refine AL.rm ?_
   refine AL.rf ?_
   refine AL.rf ?_
   refine AL.rf ?_
   refine AL.rf ?_
   refine AL.rf ?_
   refine AL.r (rd_pick_f rfl rfl rfl) ?_
   refine AL.rm ?_
   refine AL.rf ?_
   refine AL.rf ?_
   refine AL.rf ?_
   refine AL.rf ?_
   refine AL.rf ?_
   refine AL.r (rd_pick_f rfl rfl rfl) ?_
   refine AL.rm ?_
   refine AL.rf ?_
   refine AL.rf ?_
   refine AL.rf ?_
   refine AL.rf ?_
   refine AL.rf ?_
   refine AL.r (rd_pick_f rfl rfl rfl) ?_
   refine AL.rm ?_
   refine AL.rf ?_
   refine AL.rf ?_
   refine AL.rf ?_
   refine AL.rf ?_
   refine AL.rf ?_
   refine AL.r (rd_pick_f rfl rfl rfl) ?_
   refine AL.rm ?_
   refine AL.rf ?_
   refine AL.rf ?_
   refine AL.rf ?_
   refine AL.rf ?_
   refine AL.rf ?_
   refine AL.r (rd_pick_f rfl rfl rfl) ?_
   refine AL.ra ?_
   refine AL.nil ?_
   change AW _ _ _ _ _
   refine AW.ret ?_
   change ResA _ _ _ _ _
   refine res1 rfl (ResV.tmp rfl) rfl ?_
   (refine congrArg (fun b => RS.s (AB b)) ?_; rw [Bool.eq_iff_iff]; simp_all [opD_iff, tagD_iff, refD_iff] <;> (intros; simp_all))
end Go.Proofs.Ytdgcbhihmnhnaaa
