/- Whether any op is right: the program's answer and the reference's, walked over abstract states. No conditions. -/
import Derived.Test.YtfjnkhanndkpfaaOpE
import Derived.Test.YtfjnkhanndkpfaaJn
namespace Go.Proofs.Ytfjnkhanndkpfaa
set_option linter.unusedSimpArgs false
set_option linter.unusedVariables false
set_option maxRecDepth 100000
open Go.RowKit

def zeroO : OpD := ⟨⟨0, 0⟩, ⟨0, 0⟩, 0, [], 0, [], ⟨0, [], []⟩, 0, false, [], []⟩
def partsO (o : OpD) : OpD × Bool :=
  if o.kind = 1 then (⟨o.id, o.schema, o.time, o.cart, o.kind, o.item, ⟨0, [], []⟩, 0, false, [], []⟩, true)
  else if o.kind = 2 then (⟨o.id, o.schema, o.time, o.cart, o.kind, o.item, ⟨0, [], []⟩, 0, false, [], o.drops⟩, true)
  else if o.kind = 3 then (⟨o.id, o.schema, o.time, o.cart, o.kind, if o.at_.scope = 1 then o.item else [], o.at_, o.delta, false, [], []⟩, true)
  else if o.kind = 4 then (⟨o.id, o.schema, o.time, o.cart, o.kind, if o.at_.scope = 1 then o.item else [], o.at_, 0, o.has, if o.has then o.text else [], o.drops⟩, true)
  else if o.kind = 5 then (⟨o.id, o.schema, o.time, o.cart, o.kind, [], ⟨0, [], []⟩, 0, false, [], o.drops⟩, true)
  else (zeroO, false)
set_option maxHeartbeats 4000000 in
theorem parts_c (o : OpD) : AC Try.prog 125 [o.av] (fun r => r = .s (.tu [(partsO o).1.av, AB (partsO o).2])) := by
  change AC _ _ [.ag [AI o.id.rep, AI o.id.n, AI o.schema.rep, AI o.schema.n, AI o.time, AS o.cart, AI o.kind, AS o.item, AI o.at_.scope, AS o.at_.group, AS o.at_.name, AI o.delta, AB o.has, AS o.text, .sl (o.drops.map TagD.cs)]] _
  refine AC.of' 72 3 Try.func125 rfl ?_
  change AW _ _ _ _ [TK.mk 0 .off, TK.mk 0 .off, TK.mk 0 .off]
  refine AW.seq ?_
  refine AW.region ?_
  refine AL.op rfl (AOpB.op (op_box 0 rfl rfl rfl rfl rfl ?_))
  refine AL.n ?_
  refine AL.op rfl (AOpB.op (op_alloc 1 rfl ze_47 rfl ?_))
  refine AL.n ?_
  refine AL.ra ?_
  refine AL.nil ?_
  change AW _ _ _ _ _
  refine AW.seq ?_
  refine AW.region ?_
  refine AL.r (rd_faddr_bx rfl fo_47_0 rfl rfl ⟨_, _, rfl⟩) ?_
  refine AL.r (rd_loadN_bx rfl ag_44 rfl rfl (Nat.le_of_ble_eq_true rfl) rfl) ?_
  refine AL.r (rd_faddr_bx rfl fo_47_1 rfl rfl ⟨_, _, rfl⟩) ?_
  refine AL.r (rd_loadN_bx rfl ag_44 rfl rfl (Nat.le_of_ble_eq_true rfl) rfl) ?_
  refine AL.r (rd_faddr_bx rfl fo_47_2 rfl rfl ⟨_, _, rfl⟩) ?_
  refine AL.r (rd_load_bx rfl ag_2 rfl rfl rfl) ?_
  refine AL.r (rd_faddr_bx rfl fo_47_3 rfl rfl ⟨_, _, rfl⟩) ?_
  refine AL.r (rd_load_bx rfl ag_9 rfl rfl rfl) ?_
  refine AL.r (rd_faddr_bx rfl fo_47_4 rfl rfl ⟨_, _, rfl⟩) ?_
  refine AL.r (rd_load_bx rfl ag_3 rfl rfl rfl) ?_
  refine AL.r (rd_build rfl pl_47 ze_47 rfl rfl) ?_
  refine AL.op rfl (AOpB.op (op_alloc 2 rfl ze_47 rfl ?_))
  refine AL.n ?_
  refine AL.op rfl (op_store_ rfl rfl rfl rfl rfl sz_47 ?_)
  refine AL.b ?_
  refine AL.nil ?_
  change AW _ _ _ _ _
  refine AW.seq ?_
  refine AW.seq ?_
  refine AW.region ?_
  refine AL.b ?_
  refine AL.r (rd_faddr_bx rfl fo_47_4 rfl rfl ⟨_, _, rfl⟩) ?_
  refine AL.r (rd_load_bx rfl ag_3 rfl rfl rfl) ?_
  refine AL.nil ?_
  change AW _ _ _ _ _
  refine AW.block ?_
  refine AW.seq ?_
  refine AW.region ?_
  refine AL.r (rd_bin rfl rfl rfl (fun _ => rfl)) ?_
  refine AL.ra ?_
  refine AL.nil ?_
  change AW _ _ _ _ _
  refine AW.cd rfl (fun h19 => ?_) (fun h19 => ?_)
  ·skip
   refine AW.region ?_
   refine AL.r (rd_faddr_bx rfl fo_47_5 rfl rfl ⟨_, _, rfl⟩) ?_
   refine AL.r (rd_load_bx rfl ag_9 rfl rfl rfl) ?_
   refine AL.r (rd_faddr_bx rfl fo_47_5 rfl rfl ⟨_, _, rfl⟩) ?_
   refine AL.op rfl (op_store_ rfl rfl rfl rfl rfl sz_9 ?_)
   refine AL.b ?_
   refine AL.nil ?_
   change AW _ _ _ _ _
   refine AW.seq ?_
   refine AW.seq ?_
   refine AW.region ?_
   refine AL.r (rd_loadN_bx rfl ag_47 rfl rfl (Nat.le_of_ble_eq_true rfl) rfl) ?_
   refine AL.op rfl (AOpB.op (op_call (placed_c o) rfl (by kernel_rfl) rfl (none) ?_))
   rintro r rfl
   refine AL.n ?_
   refine AL.rm ?_
   refine AL.fk (d := 63) rfl (fun h63 => ?_) (fun h63 => ?_)
   ·skip
    refine AL.n ?_
    refine AL.ro (rd_faddr_bx rfl fo_47_6 rfl rfl ⟨_, _, rfl⟩) ?_
    refine AL.ro (rd_faddr_bx rfl fo_27_0 rfl rfl ⟨_, _, rfl⟩) ?_
    refine AL.ro (rd_load_bx rfl ag_3 rfl rfl rfl) ?_
    refine AL.ro (rd_bin rfl rfl rfl (fun _ => rfl)) ?_
    refine AL.r (rd_pick_t rfl rfl rfl) ?_
    refine AL.nil ?_
    change AW _ _ _ _ _
    refine AW.cd rfl (fun h68 => ?_) (fun h68 => ?_)
    ·skip
     refine AW.region ?_
     refine AL.r (rd_faddr_bx rfl fo_47_5 rfl rfl ⟨_, _, rfl⟩) ?_
     refine AL.r (rd_load_bx rfl ag_9 rfl rfl rfl) ?_
     refine AL.r (rd_faddr_bx rfl fo_47_5 rfl rfl ⟨_, _, rfl⟩) ?_
     refine AL.op rfl (op_store_ rfl rfl rfl rfl rfl sz_9 ?_)
     refine AL.b ?_
     refine AL.nil ?_
     change AW _ _ _ _ _
     refine AW.seq ?_
     refine AW.region ?_
     refine AL.r (rd_loadN_bx rfl ag_47 rfl rfl (Nat.le_of_ble_eq_true rfl) rfl) ?_
     refine AL.op rfl (op_store_ rfl rfl rfl rfl rfl sz_47 ?_)
     refine AL.b ?_
     refine AL.ra ?_
     refine AL.nil ?_
     change AW _ _ _ _ _
     refine AW.ret ?_
     change ResA _ _ _ _ _
     refine res2 rfl (ResV.cells rfl rfl ag_47 (Nat.le_of_ble_eq_true rfl) rfl) rfl (ResV.tmp rfl) rfl ?_
     simp_all [partsO, zeroO, OpD.cs]
    ·skip
     refine AW.skip ?_
     change AW _ _ _ _ _
     refine AW.seq ?_
     refine AW.region ?_
     refine AL.r (rd_loadN_bx rfl ag_47 rfl rfl (Nat.le_of_ble_eq_true rfl) rfl) ?_
     refine AL.op rfl (op_store_ rfl rfl rfl rfl rfl sz_47 ?_)
     refine AL.b ?_
     refine AL.ra ?_
     refine AL.nil ?_
     change AW _ _ _ _ _
     refine AW.ret ?_
     change ResA _ _ _ _ _
     refine res2 rfl (ResV.cells rfl rfl ag_47 (Nat.le_of_ble_eq_true rfl) rfl) rfl (ResV.tmp rfl) rfl ?_
     simp_all [partsO, zeroO, OpD.cs]
   ·skip
    refine AL.n ?_
    refine AL.rf ?_
    refine AL.rf ?_
    refine AL.rf ?_
    refine AL.rf ?_
    refine AL.r (rd_pick_f rfl rfl rfl) ?_
    refine AL.nil ?_
    change AW _ _ _ _ _
    refine AW.cond_f rfl ?_
    refine AW.skip ?_
    change AW _ _ _ _ _
    refine AW.seq ?_
    refine AW.region ?_
    refine AL.r (rd_loadN_bx rfl ag_47 rfl rfl (Nat.le_of_ble_eq_true rfl) rfl) ?_
    refine AL.op rfl (op_store_ rfl rfl rfl rfl rfl sz_47 ?_)
    refine AL.b ?_
    refine AL.ra ?_
    refine AL.nil ?_
    change AW _ _ _ _ _
    refine AW.ret ?_
    change ResA _ _ _ _ _
    refine res2 rfl (ResV.cells rfl rfl ag_47 (Nat.le_of_ble_eq_true rfl) rfl) rfl (ResV.tmp rfl) rfl ?_
    simp_all [partsO, zeroO, OpD.cs]
  ·skip
   refine AW.seq ?_
   refine AW.region ?_
   refine AL.r (rd_bin rfl rfl rfl (fun _ => rfl)) ?_
   refine AL.ra ?_
   refine AL.nil ?_
   change AW _ _ _ _ _
   refine AW.cd rfl (fun h24 => ?_) (fun h24 => ?_)
   ·skip
    refine AW.drawX 2 (by kernel_rfl) ?_
    refine ADX.r 0 rfl (rdX_faddr_bx rfl fo_47_5 rfl rfl ⟨_, _, rfl⟩) rfl ?_
    refine ADX.r 1 rfl (rdX_load_bx rfl ag_9 rfl rfl rfl) rfl ?_
    refine ADX.r 2 rfl (rdX_faddr_bx rfl fo_47_10 rfl rfl ⟨_, _, rfl⟩) rfl ?_
    refine ADX.r 3 rfl (rdX_load_bx rfl ag_45 rfl rfl rfl) rfl ?_
    refine ADX.r 4 rfl (rdX_faddr_bx rfl fo_47_5 rfl rfl ⟨_, _, rfl⟩) rfl ?_
    refine ADX.stor 5 rfl (by kernel_rfl) rfl rfl rfl rfl rfl rfl sz_9 ?_
    refine ADX.n ?_
    refine ADX.r 6 rfl (rdX_faddr_bx rfl fo_47_10 rfl rfl ⟨_, _, rfl⟩) rfl ?_
    refine ADX.stor 7 rfl (by kernel_rfl) rfl rfl rfl rfl rfl rfl sz_45 ?_
    refine ADX.n ?_
    refine ADX.done (by kernel_rfl) ?_
    change AW _ _ _ _ _
    refine AW.seq ?_
    refine AW.seq ?_
    refine AW.region ?_
    refine AL.r (rd_loadN_bx rfl ag_47 rfl rfl (Nat.le_of_ble_eq_true rfl) rfl) ?_
    refine AL.op rfl (AOpB.op (op_call (placed_c o) rfl (by kernel_rfl) rfl (none) ?_))
    rintro r rfl
    refine AL.n ?_
    refine AL.rm ?_
    refine AL.fk (d := 63) rfl (fun h63 => ?_) (fun h63 => ?_)
    ·skip
     refine AL.n ?_
     refine AL.ro (rd_faddr_bx rfl fo_47_6 rfl rfl ⟨_, _, rfl⟩) ?_
     refine AL.ro (rd_faddr_bx rfl fo_27_0 rfl rfl ⟨_, _, rfl⟩) ?_
     refine AL.ro (rd_load_bx rfl ag_3 rfl rfl rfl) ?_
     refine AL.ro (rd_bin rfl rfl rfl (fun _ => rfl)) ?_
     refine AL.r (rd_pick_t rfl rfl rfl) ?_
     refine AL.nil ?_
     change AW _ _ _ _ _
     refine AW.cd rfl (fun h68 => ?_) (fun h68 => ?_)
     ·skip
      refine AW.region ?_
      refine AL.r (rd_faddr_bx rfl fo_47_5 rfl rfl ⟨_, _, rfl⟩) ?_
      refine AL.r (rd_load_bx rfl ag_9 rfl rfl rfl) ?_
      refine AL.r (rd_faddr_bx rfl fo_47_5 rfl rfl ⟨_, _, rfl⟩) ?_
      refine AL.op rfl (op_store_ rfl rfl rfl rfl rfl sz_9 ?_)
      refine AL.b ?_
      refine AL.nil ?_
      change AW _ _ _ _ _
      refine AW.seq ?_
      refine AW.region ?_
      refine AL.r (rd_loadN_bx rfl ag_47 rfl rfl (Nat.le_of_ble_eq_true rfl) rfl) ?_
      refine AL.op rfl (op_store_ rfl rfl rfl rfl rfl sz_47 ?_)
      refine AL.b ?_
      refine AL.ra ?_
      refine AL.nil ?_
      change AW _ _ _ _ _
      refine AW.ret ?_
      change ResA _ _ _ _ _
      refine res2 rfl (ResV.cells rfl rfl ag_47 (Nat.le_of_ble_eq_true rfl) rfl) rfl (ResV.tmp rfl) rfl ?_
      simp_all [partsO, zeroO, OpD.cs]
     ·skip
      refine AW.skip ?_
      change AW _ _ _ _ _
      refine AW.seq ?_
      refine AW.region ?_
      refine AL.r (rd_loadN_bx rfl ag_47 rfl rfl (Nat.le_of_ble_eq_true rfl) rfl) ?_
      refine AL.op rfl (op_store_ rfl rfl rfl rfl rfl sz_47 ?_)
      refine AL.b ?_
      refine AL.ra ?_
      refine AL.nil ?_
      change AW _ _ _ _ _
      refine AW.ret ?_
      change ResA _ _ _ _ _
      refine res2 rfl (ResV.cells rfl rfl ag_47 (Nat.le_of_ble_eq_true rfl) rfl) rfl (ResV.tmp rfl) rfl ?_
      simp_all [partsO, zeroO, OpD.cs]
    ·skip
     refine AL.n ?_
     refine AL.rf ?_
     refine AL.rf ?_
     refine AL.rf ?_
     refine AL.rf ?_
     refine AL.r (rd_pick_f rfl rfl rfl) ?_
     refine AL.nil ?_
     change AW _ _ _ _ _
     refine AW.cond_f rfl ?_
     refine AW.skip ?_
     change AW _ _ _ _ _
     refine AW.seq ?_
     refine AW.region ?_
     refine AL.r (rd_loadN_bx rfl ag_47 rfl rfl (Nat.le_of_ble_eq_true rfl) rfl) ?_
     refine AL.op rfl (op_store_ rfl rfl rfl rfl rfl sz_47 ?_)
     refine AL.b ?_
     refine AL.ra ?_
     refine AL.nil ?_
     change AW _ _ _ _ _
     refine AW.ret ?_
     change ResA _ _ _ _ _
     refine res2 rfl (ResV.cells rfl rfl ag_47 (Nat.le_of_ble_eq_true rfl) rfl) rfl (ResV.tmp rfl) rfl ?_
     simp_all [partsO, zeroO, OpD.cs]
   ·skip
    refine AW.seq ?_
    refine AW.region ?_
    refine AL.r (rd_bin rfl rfl rfl (fun _ => rfl)) ?_
    refine AL.ra ?_
    refine AL.nil ?_
    change AW _ _ _ _ _
    refine AW.cd rfl (fun h32 => ?_) (fun h32 => ?_)
    ·skip
     refine AW.drawX 2 (by kernel_rfl) ?_
     refine ADX.r 0 rfl (rdX_faddr_bx rfl fo_47_6 rfl rfl ⟨_, _, rfl⟩) rfl ?_
     refine ADX.r 1 rfl (rdX_loadN_bx rfl ag_27 rfl rfl (Nat.le_of_ble_eq_true rfl) rfl) rfl ?_
     refine ADX.r 2 rfl (rdX_faddr_bx rfl fo_47_7 rfl rfl ⟨_, _, rfl⟩) rfl ?_
     refine ADX.r 3 rfl (rdX_load_bx rfl ag_2 rfl rfl rfl) rfl ?_
     refine ADX.r 4 rfl (rdX_faddr_bx rfl fo_47_6 rfl rfl ⟨_, _, rfl⟩) rfl ?_
     refine ADX.stor 5 rfl (by kernel_rfl) rfl rfl rfl rfl rfl rfl sz_27 ?_
     refine ADX.n ?_
     refine ADX.r 6 rfl (rdX_faddr_bx rfl fo_47_7 rfl rfl ⟨_, _, rfl⟩) rfl ?_
     refine ADX.stor 7 rfl (by kernel_rfl) rfl rfl rfl rfl rfl rfl sz_2 ?_
     refine ADX.n ?_
     refine ADX.done (by kernel_rfl) ?_
     change AW _ _ _ _ _
     refine AW.seq ?_
     refine AW.seq ?_
     refine AW.region ?_
     refine AL.r (rd_loadN_bx rfl ag_47 rfl rfl (Nat.le_of_ble_eq_true rfl) rfl) ?_
     refine AL.op rfl (AOpB.op (op_call (placed_c o) rfl (by kernel_rfl) rfl (none) ?_))
     rintro r rfl
     refine AL.n ?_
     refine AL.rm ?_
     refine AL.fk (d := 63) rfl (fun h63 => ?_) (fun h63 => ?_)
     ·skip
      refine AL.n ?_
      refine AL.ro (rd_faddr_bx rfl fo_47_6 rfl rfl ⟨_, _, rfl⟩) ?_
      refine AL.ro (rd_faddr_bx rfl fo_27_0 rfl rfl ⟨_, _, rfl⟩) ?_
      refine AL.ro (rd_load_bx rfl ag_3 rfl rfl rfl) ?_
      refine AL.ro (rd_bin rfl rfl rfl (fun _ => rfl)) ?_
      refine AL.r (rd_pick_t rfl rfl rfl) ?_
      refine AL.nil ?_
      change AW _ _ _ _ _
      refine AW.cd rfl (fun h68 => ?_) (fun h68 => ?_)
      ·skip
       refine AW.region ?_
       refine AL.r (rd_faddr_bx rfl fo_47_5 rfl rfl ⟨_, _, rfl⟩) ?_
       refine AL.r (rd_load_bx rfl ag_9 rfl rfl rfl) ?_
       refine AL.r (rd_faddr_bx rfl fo_47_5 rfl rfl ⟨_, _, rfl⟩) ?_
       refine AL.op rfl (op_store_ rfl rfl rfl rfl rfl sz_9 ?_)
       refine AL.b ?_
       refine AL.nil ?_
       change AW _ _ _ _ _
       refine AW.seq ?_
       refine AW.region ?_
       refine AL.r (rd_loadN_bx rfl ag_47 rfl rfl (Nat.le_of_ble_eq_true rfl) rfl) ?_
       refine AL.op rfl (op_store_ rfl rfl rfl rfl rfl sz_47 ?_)
       refine AL.b ?_
       refine AL.ra ?_
       refine AL.nil ?_
       change AW _ _ _ _ _
       refine AW.ret ?_
       change ResA _ _ _ _ _
       refine res2 rfl (ResV.cells rfl rfl ag_47 (Nat.le_of_ble_eq_true rfl) rfl) rfl (ResV.tmp rfl) rfl ?_
       simp_all [partsO, zeroO, OpD.cs]
      ·skip
       refine AW.skip ?_
       change AW _ _ _ _ _
       refine AW.seq ?_
       refine AW.region ?_
       refine AL.r (rd_loadN_bx rfl ag_47 rfl rfl (Nat.le_of_ble_eq_true rfl) rfl) ?_
       refine AL.op rfl (op_store_ rfl rfl rfl rfl rfl sz_47 ?_)
       refine AL.b ?_
       refine AL.ra ?_
       refine AL.nil ?_
       change AW _ _ _ _ _
       refine AW.ret ?_
       change ResA _ _ _ _ _
       refine res2 rfl (ResV.cells rfl rfl ag_47 (Nat.le_of_ble_eq_true rfl) rfl) rfl (ResV.tmp rfl) rfl ?_
       simp_all [partsO, zeroO, OpD.cs]
     ·skip
      refine AL.n ?_
      refine AL.rf ?_
      refine AL.rf ?_
      refine AL.rf ?_
      refine AL.rf ?_
      refine AL.r (rd_pick_f rfl rfl rfl) ?_
      refine AL.nil ?_
      change AW _ _ _ _ _
      refine AW.cond_f rfl ?_
      refine AW.skip ?_
      change AW _ _ _ _ _
      refine AW.seq ?_
      refine AW.region ?_
      refine AL.r (rd_loadN_bx rfl ag_47 rfl rfl (Nat.le_of_ble_eq_true rfl) rfl) ?_
      refine AL.op rfl (op_store_ rfl rfl rfl rfl rfl sz_47 ?_)
      refine AL.b ?_
      refine AL.ra ?_
      refine AL.nil ?_
      change AW _ _ _ _ _
      refine AW.ret ?_
      change ResA _ _ _ _ _
      refine res2 rfl (ResV.cells rfl rfl ag_47 (Nat.le_of_ble_eq_true rfl) rfl) rfl (ResV.tmp rfl) rfl ?_
      simp_all [partsO, zeroO, OpD.cs]
    ·skip
     refine AW.seq ?_
     refine AW.region ?_
     refine AL.r (rd_bin rfl rfl rfl (fun _ => rfl)) ?_
     refine AL.ra ?_
     refine AL.nil ?_
     change AW _ _ _ _ _
     refine AW.cd rfl (fun h40 => ?_) (fun h40 => ?_)
     ·skip
      refine AW.seq ?_
      refine AW.drawX 2 (by kernel_rfl) ?_
      refine ADX.r 0 rfl (rdX_faddr_bx rfl fo_47_6 rfl rfl ⟨_, _, rfl⟩) rfl ?_
      refine ADX.r 1 rfl (rdX_loadN_bx rfl ag_27 rfl rfl (Nat.le_of_ble_eq_true rfl) rfl) rfl ?_
      refine ADX.r 2 rfl (rdX_faddr_bx rfl fo_47_8 rfl rfl ⟨_, _, rfl⟩) rfl ?_
      refine ADX.r 3 rfl (rdX_load_bx rfl ag_4 rfl rfl rfl) rfl ?_
      refine ADX.r 4 rfl (rdX_faddr_bx rfl fo_47_10 rfl rfl ⟨_, _, rfl⟩) rfl ?_
      refine ADX.r 5 rfl (rdX_load_bx rfl ag_45 rfl rfl rfl) rfl ?_
      refine ADX.r 6 rfl (rdX_faddr_bx rfl fo_47_6 rfl rfl ⟨_, _, rfl⟩) rfl ?_
      refine ADX.stor 7 rfl (by kernel_rfl) rfl rfl rfl rfl rfl rfl sz_27 ?_
      refine ADX.n ?_
      refine ADX.r 8 rfl (rdX_faddr_bx rfl fo_47_8 rfl rfl ⟨_, _, rfl⟩) rfl ?_
      refine ADX.stor 9 rfl (by kernel_rfl) rfl rfl rfl rfl rfl rfl sz_4 ?_
      refine ADX.n ?_
      refine ADX.r 10 rfl (rdX_faddr_bx rfl fo_47_10 rfl rfl ⟨_, _, rfl⟩) rfl ?_
      refine ADX.stor 11 rfl (by kernel_rfl) rfl rfl rfl rfl rfl rfl sz_45 ?_
      refine ADX.n ?_
      refine ADX.done (by kernel_rfl) ?_
      change AW _ _ _ _ _
      refine AW.seq ?_
      refine AW.region ?_
      refine AL.r (rd_faddr_bx rfl fo_47_8 rfl rfl ⟨_, _, rfl⟩) ?_
      refine AL.r (rd_load_bx rfl ag_4 rfl rfl rfl) ?_
      refine AL.nil ?_
      change AW _ _ _ _ _
      refine AW.cd rfl (fun h52 => ?_) (fun h52 => ?_)
      ·skip
       refine AW.region ?_
       refine AL.r (rd_faddr_bx rfl fo_47_9 rfl rfl ⟨_, _, rfl⟩) ?_
       refine AL.r (rd_load_bx rfl ag_9 rfl rfl rfl) ?_
       refine AL.r (rd_faddr_bx rfl fo_47_9 rfl rfl ⟨_, _, rfl⟩) ?_
       refine AL.op rfl (op_store_ rfl rfl rfl rfl rfl sz_9 ?_)
       refine AL.b ?_
       refine AL.nil ?_
       change AW _ _ _ _ _
       refine AW.seq ?_
       refine AW.seq ?_
       refine AW.region ?_
       refine AL.r (rd_loadN_bx rfl ag_47 rfl rfl (Nat.le_of_ble_eq_true rfl) rfl) ?_
       refine AL.op rfl (AOpB.op (op_call (placed_c o) rfl (by kernel_rfl) rfl (none) ?_))
       rintro r rfl
       refine AL.n ?_
       refine AL.rm ?_
       refine AL.fk (d := 63) rfl (fun h63 => ?_) (fun h63 => ?_)
       ·skip
        refine AL.n ?_
        refine AL.ro (rd_faddr_bx rfl fo_47_6 rfl rfl ⟨_, _, rfl⟩) ?_
        refine AL.ro (rd_faddr_bx rfl fo_27_0 rfl rfl ⟨_, _, rfl⟩) ?_
        refine AL.ro (rd_load_bx rfl ag_3 rfl rfl rfl) ?_
        refine AL.ro (rd_bin rfl rfl rfl (fun _ => rfl)) ?_
        refine AL.r (rd_pick_t rfl rfl rfl) ?_
        refine AL.nil ?_
        change AW _ _ _ _ _
        refine AW.cd rfl (fun h68 => ?_) (fun h68 => ?_)
        ·skip
         refine AW.region ?_
         refine AL.r (rd_faddr_bx rfl fo_47_5 rfl rfl ⟨_, _, rfl⟩) ?_
         refine AL.r (rd_load_bx rfl ag_9 rfl rfl rfl) ?_
         refine AL.r (rd_faddr_bx rfl fo_47_5 rfl rfl ⟨_, _, rfl⟩) ?_
         refine AL.op rfl (op_store_ rfl rfl rfl rfl rfl sz_9 ?_)
         refine AL.b ?_
         refine AL.nil ?_
         change AW _ _ _ _ _
         refine AW.seq ?_
         refine AW.region ?_
         refine AL.r (rd_loadN_bx rfl ag_47 rfl rfl (Nat.le_of_ble_eq_true rfl) rfl) ?_
         refine AL.op rfl (op_store_ rfl rfl rfl rfl rfl sz_47 ?_)
         refine AL.b ?_
         refine AL.ra ?_
         refine AL.nil ?_
         change AW _ _ _ _ _
         refine AW.ret ?_
         change ResA _ _ _ _ _
         refine res2 rfl (ResV.cells rfl rfl ag_47 (Nat.le_of_ble_eq_true rfl) rfl) rfl (ResV.tmp rfl) rfl ?_
         simp_all [partsO, zeroO, OpD.cs]
        ·skip
         refine AW.skip ?_
         change AW _ _ _ _ _
         refine AW.seq ?_
         refine AW.region ?_
         refine AL.r (rd_loadN_bx rfl ag_47 rfl rfl (Nat.le_of_ble_eq_true rfl) rfl) ?_
         refine AL.op rfl (op_store_ rfl rfl rfl rfl rfl sz_47 ?_)
         refine AL.b ?_
         refine AL.ra ?_
         refine AL.nil ?_
         change AW _ _ _ _ _
         refine AW.ret ?_
         change ResA _ _ _ _ _
         refine res2 rfl (ResV.cells rfl rfl ag_47 (Nat.le_of_ble_eq_true rfl) rfl) rfl (ResV.tmp rfl) rfl ?_
         simp_all [partsO, zeroO, OpD.cs]
       ·skip
        refine AL.n ?_
        refine AL.rf ?_
        refine AL.rf ?_
        refine AL.rf ?_
        refine AL.rf ?_
        refine AL.r (rd_pick_f rfl rfl rfl) ?_
        refine AL.nil ?_
        change AW _ _ _ _ _
        refine AW.cond_f rfl ?_
        refine AW.skip ?_
        change AW _ _ _ _ _
        refine AW.seq ?_
        refine AW.region ?_
        refine AL.r (rd_loadN_bx rfl ag_47 rfl rfl (Nat.le_of_ble_eq_true rfl) rfl) ?_
        refine AL.op rfl (op_store_ rfl rfl rfl rfl rfl sz_47 ?_)
        refine AL.b ?_
        refine AL.ra ?_
        refine AL.nil ?_
        change AW _ _ _ _ _
        refine AW.ret ?_
        change ResA _ _ _ _ _
        refine res2 rfl (ResV.cells rfl rfl ag_47 (Nat.le_of_ble_eq_true rfl) rfl) rfl (ResV.tmp rfl) rfl ?_
        simp_all [partsO, zeroO, OpD.cs]
      ·skip
       refine AW.skip ?_
       change AW _ _ _ _ _
       refine AW.seq ?_
       refine AW.seq ?_
       refine AW.region ?_
       refine AL.r (rd_loadN_bx rfl ag_47 rfl rfl (Nat.le_of_ble_eq_true rfl) rfl) ?_
       refine AL.op rfl (AOpB.op (op_call (placed_c o) rfl (by kernel_rfl) rfl (none) ?_))
       rintro r rfl
       refine AL.n ?_
       refine AL.rm ?_
       refine AL.fk (d := 63) rfl (fun h63 => ?_) (fun h63 => ?_)
       ·skip
        refine AL.n ?_
        refine AL.ro (rd_faddr_bx rfl fo_47_6 rfl rfl ⟨_, _, rfl⟩) ?_
        refine AL.ro (rd_faddr_bx rfl fo_27_0 rfl rfl ⟨_, _, rfl⟩) ?_
        refine AL.ro (rd_load_bx rfl ag_3 rfl rfl rfl) ?_
        refine AL.ro (rd_bin rfl rfl rfl (fun _ => rfl)) ?_
        refine AL.r (rd_pick_t rfl rfl rfl) ?_
        refine AL.nil ?_
        change AW _ _ _ _ _
        refine AW.cd rfl (fun h68 => ?_) (fun h68 => ?_)
        ·skip
         refine AW.region ?_
         refine AL.r (rd_faddr_bx rfl fo_47_5 rfl rfl ⟨_, _, rfl⟩) ?_
         refine AL.r (rd_load_bx rfl ag_9 rfl rfl rfl) ?_
         refine AL.r (rd_faddr_bx rfl fo_47_5 rfl rfl ⟨_, _, rfl⟩) ?_
         refine AL.op rfl (op_store_ rfl rfl rfl rfl rfl sz_9 ?_)
         refine AL.b ?_
         refine AL.nil ?_
         change AW _ _ _ _ _
         refine AW.seq ?_
         refine AW.region ?_
         refine AL.r (rd_loadN_bx rfl ag_47 rfl rfl (Nat.le_of_ble_eq_true rfl) rfl) ?_
         refine AL.op rfl (op_store_ rfl rfl rfl rfl rfl sz_47 ?_)
         refine AL.b ?_
         refine AL.ra ?_
         refine AL.nil ?_
         change AW _ _ _ _ _
         refine AW.ret ?_
         change ResA _ _ _ _ _
         refine res2 rfl (ResV.cells rfl rfl ag_47 (Nat.le_of_ble_eq_true rfl) rfl) rfl (ResV.tmp rfl) rfl ?_
         simp_all [partsO, zeroO, OpD.cs]
        ·skip
         refine AW.skip ?_
         change AW _ _ _ _ _
         refine AW.seq ?_
         refine AW.region ?_
         refine AL.r (rd_loadN_bx rfl ag_47 rfl rfl (Nat.le_of_ble_eq_true rfl) rfl) ?_
         refine AL.op rfl (op_store_ rfl rfl rfl rfl rfl sz_47 ?_)
         refine AL.b ?_
         refine AL.ra ?_
         refine AL.nil ?_
         change AW _ _ _ _ _
         refine AW.ret ?_
         change ResA _ _ _ _ _
         refine res2 rfl (ResV.cells rfl rfl ag_47 (Nat.le_of_ble_eq_true rfl) rfl) rfl (ResV.tmp rfl) rfl ?_
         simp_all [partsO, zeroO, OpD.cs]
       ·skip
        refine AL.n ?_
        refine AL.rf ?_
        refine AL.rf ?_
        refine AL.rf ?_
        refine AL.rf ?_
        refine AL.r (rd_pick_f rfl rfl rfl) ?_
        refine AL.nil ?_
        change AW _ _ _ _ _
        refine AW.cond_f rfl ?_
        refine AW.skip ?_
        change AW _ _ _ _ _
        refine AW.seq ?_
        refine AW.region ?_
        refine AL.r (rd_loadN_bx rfl ag_47 rfl rfl (Nat.le_of_ble_eq_true rfl) rfl) ?_
        refine AL.op rfl (op_store_ rfl rfl rfl rfl rfl sz_47 ?_)
        refine AL.b ?_
        refine AL.ra ?_
        refine AL.nil ?_
        change AW _ _ _ _ _
        refine AW.ret ?_
        change ResA _ _ _ _ _
        refine res2 rfl (ResV.cells rfl rfl ag_47 (Nat.le_of_ble_eq_true rfl) rfl) rfl (ResV.tmp rfl) rfl ?_
        simp_all [partsO, zeroO, OpD.cs]
     ·skip
      refine AW.seq ?_
      refine AW.region ?_
      refine AL.r (rd_bin rfl rfl rfl (fun _ => rfl)) ?_
      refine AL.ra ?_
      refine AL.nil ?_
      change AW _ _ _ _ _
      refine AW.cd rfl (fun h56 => ?_) (fun h56 => ?_)
      ·skip
       refine AW.region ?_
       refine AL.r (rd_faddr_bx rfl fo_47_10 rfl rfl ⟨_, _, rfl⟩) ?_
       refine AL.r (rd_load_bx rfl ag_45 rfl rfl rfl) ?_
       refine AL.r (rd_faddr_bx rfl fo_47_10 rfl rfl ⟨_, _, rfl⟩) ?_
       refine AL.op rfl (op_store_ rfl rfl rfl rfl rfl sz_45 ?_)
       refine AL.b ?_
       refine AL.nil ?_
       change AW _ _ _ _ _
       refine AW.seq ?_
       refine AW.seq ?_
       refine AW.region ?_
       refine AL.r (rd_loadN_bx rfl ag_47 rfl rfl (Nat.le_of_ble_eq_true rfl) rfl) ?_
       refine AL.op rfl (AOpB.op (op_call (placed_c o) rfl (by kernel_rfl) rfl (none) ?_))
       rintro r rfl
       refine AL.n ?_
       refine AL.rm ?_
       refine AL.fk (d := 63) rfl (fun h63 => ?_) (fun h63 => ?_)
       ·skip
        refine AL.n ?_
        refine AL.ro (rd_faddr_bx rfl fo_47_6 rfl rfl ⟨_, _, rfl⟩) ?_
        refine AL.ro (rd_faddr_bx rfl fo_27_0 rfl rfl ⟨_, _, rfl⟩) ?_
        refine AL.ro (rd_load_bx rfl ag_3 rfl rfl rfl) ?_
        refine AL.ro (rd_bin rfl rfl rfl (fun _ => rfl)) ?_
        refine AL.r (rd_pick_t rfl rfl rfl) ?_
        refine AL.nil ?_
        change AW _ _ _ _ _
        refine AW.cd rfl (fun h68 => ?_) (fun h68 => ?_)
        ·skip
         refine AW.region ?_
         refine AL.r (rd_faddr_bx rfl fo_47_5 rfl rfl ⟨_, _, rfl⟩) ?_
         refine AL.r (rd_load_bx rfl ag_9 rfl rfl rfl) ?_
         refine AL.r (rd_faddr_bx rfl fo_47_5 rfl rfl ⟨_, _, rfl⟩) ?_
         refine AL.op rfl (op_store_ rfl rfl rfl rfl rfl sz_9 ?_)
         refine AL.b ?_
         refine AL.nil ?_
         change AW _ _ _ _ _
         refine AW.seq ?_
         refine AW.region ?_
         refine AL.r (rd_loadN_bx rfl ag_47 rfl rfl (Nat.le_of_ble_eq_true rfl) rfl) ?_
         refine AL.op rfl (op_store_ rfl rfl rfl rfl rfl sz_47 ?_)
         refine AL.b ?_
         refine AL.ra ?_
         refine AL.nil ?_
         change AW _ _ _ _ _
         refine AW.ret ?_
         change ResA _ _ _ _ _
         refine res2 rfl (ResV.cells rfl rfl ag_47 (Nat.le_of_ble_eq_true rfl) rfl) rfl (ResV.tmp rfl) rfl ?_
         simp_all [partsO, zeroO, OpD.cs]
        ·skip
         refine AW.skip ?_
         change AW _ _ _ _ _
         refine AW.seq ?_
         refine AW.region ?_
         refine AL.r (rd_loadN_bx rfl ag_47 rfl rfl (Nat.le_of_ble_eq_true rfl) rfl) ?_
         refine AL.op rfl (op_store_ rfl rfl rfl rfl rfl sz_47 ?_)
         refine AL.b ?_
         refine AL.ra ?_
         refine AL.nil ?_
         change AW _ _ _ _ _
         refine AW.ret ?_
         change ResA _ _ _ _ _
         refine res2 rfl (ResV.cells rfl rfl ag_47 (Nat.le_of_ble_eq_true rfl) rfl) rfl (ResV.tmp rfl) rfl ?_
         simp_all [partsO, zeroO, OpD.cs]
       ·skip
        refine AL.n ?_
        refine AL.rf ?_
        refine AL.rf ?_
        refine AL.rf ?_
        refine AL.rf ?_
        refine AL.r (rd_pick_f rfl rfl rfl) ?_
        refine AL.nil ?_
        change AW _ _ _ _ _
        refine AW.cond_f rfl ?_
        refine AW.skip ?_
        change AW _ _ _ _ _
        refine AW.seq ?_
        refine AW.region ?_
        refine AL.r (rd_loadN_bx rfl ag_47 rfl rfl (Nat.le_of_ble_eq_true rfl) rfl) ?_
        refine AL.op rfl (op_store_ rfl rfl rfl rfl rfl sz_47 ?_)
        refine AL.b ?_
        refine AL.ra ?_
        refine AL.nil ?_
        change AW _ _ _ _ _
        refine AW.ret ?_
        change ResA _ _ _ _ _
        refine res2 rfl (ResV.cells rfl rfl ag_47 (Nat.le_of_ble_eq_true rfl) rfl) rfl (ResV.tmp rfl) rfl ?_
        simp_all [partsO, zeroO, OpD.cs]
      ·skip
       refine AW.seq ?_
       refine AW.region ?_
       refine AL.r (rd_build rfl pl_47 ze_47 rfl rfl) ?_
       refine AL.op rfl (op_store_ rfl rfl rfl rfl rfl sz_47 ?_)
       refine AL.b ?_
       refine AL.ra ?_
       refine AL.nil ?_
       change AW _ _ _ _ _
       refine AW.ret ?_
       change ResA _ _ _ _ _
       refine res2 rfl (ResV.cells rfl rfl ag_47 (Nat.le_of_ble_eq_true rfl) rfl) rfl (ResV.tmp rfl) rfl ?_
       simp_all [partsO, zeroO, OpD.cs]
/-- Do all stand right, each behind the one ahead of it? -/
def okA {α : Type} (p : α → Bool) (r : α → α → Bool) (l : List α) (i : Nat) : Bool := match l[i]? with
  | none => true
  | some f => p f && (match i with | 0 => true | j + 1 => match l[j]? with | none => true | some g => r g f)
section
variable {α : Type} {p : α → Bool} {r : α → α → Bool} {l : List α} {k : Nat}
theorem okA_0 (h : 0 < l.length) : okA p r l 0 = p l[0] := by simp [okA, h]
theorem okA_s (h : k < l.length) (h0 : 0 < k) : okA p r l k = (p l[k] && r (l[k - 1]'(by omega)) l[k]) := by
  obtain ⟨j, rfl⟩ : ∃ j, k = j + 1 := ⟨k - 1, by omega⟩
  have hj : j < l.length := by omega
  simp [okA, h, hj]
theorem okA_f (h : k < l.length) (hr : p l[k] = false) : okA p r l k = false := by
  unfold okA
  rw [List.getElem?_eq_getElem h]
  simp [hr]
theorem okA_all (h : ∀ i, i < l.length → okA p r l i = true) : (List.range l.length).all (okA p r l) = true := by
  rw [List.all_eq_true]; exact fun i hi => h i (List.mem_range.1 hi)
theorem okA_no (hk : k < l.length) (h : okA p r l k = false) : (List.range l.length).all (okA p r l) = false := by
  rw [List.all_eq_false]; exact ⟨k, List.mem_range.2 hk, by rw [h]; simp⟩
end
def dropP (o : OpD) (t : TagD) : Bool := tagB t && !(decide (t = o.id))
def dropsB (o : OpD) : Bool := decide (o.drops.length ≤ 60) && (List.range o.drops.length).all (okA (dropP o) lessT o.drops)
theorem dropsB_f {o : OpD} {k : Nat} (hk : k < o.drops.length) (h : okA (dropP o) lessT o.drops k = false) : dropsB o = false := by unfold dropsB; rw [okA_no hk h, Bool.and_false]
theorem dropsB_t {o : OpD} (h1 : o.drops.length ≤ 60) (h : ∀ i, i < o.drops.length → okA (dropP o) lessT o.drops i = true) : dropsB o = true := by unfold dropsB; rw [okA_all h, decide_eq_true h1]; rfl
theorem dropsB_l {o : OpD} (h : 60 < o.drops.length) : dropsB o = false := by unfold dropsB; rw [decide_eq_false (by omega), Bool.false_and]
theorem drops_c (o : OpD) : AC Try.prog 128 [o.av] (fun r => r = .s (AB (dropsB o))) := by
  change AC _ _ [.ag [AI o.id.rep, AI o.id.n, AI o.schema.rep, AI o.schema.n, AI o.time, AS o.cart, AI o.kind, AS o.item, AI o.at_.scope, AS o.at_.group, AS o.at_.name, AI o.delta, AB o.has, AS o.text, .sl (o.drops.map TagD.cs)]] _
  refine AC.of' 39 2 Try.func128 rfl ?_
  change AW _ _ _ _ [TK.mk 0 .off, TK.mk 0 .off]
  refine AW.seq ?_
  refine AW.region ?_
  refine AL.op rfl (AOpB.op (op_box 0 rfl rfl rfl rfl rfl ?_))
  refine AL.n ?_
  refine AL.ra ?_
  refine AL.nil ?_
  change AW _ _ _ _ _
  refine AW.seq ?_
  refine AW.seq ?_
  refine AW.region ?_
  refine AL.r (rd_faddr_bx rfl fo_47_10 rfl rfl ⟨_, _, rfl⟩) ?_
  refine AL.r (rd_load_bx rfl ag_45 rfl rfl rfl) ?_
  refine AL.r (rd_len_sl rfl el_45 rfl) ?_
  refine AL.r (rd_bin rfl rfl rfl (fun _ => rfl)) ?_
  refine AL.nil ?_
  change AW _ _ _ _ _
  refine AW.cd rfl (fun h8 => ?_) (fun h8 => ?_)
  ·skip
   refine AW.seq ?_
   refine AW.region ?_
   refine AL.ra ?_
   refine AL.nil ?_
   change AW _ _ _ _ _
   refine AW.ret ?_
   change ResA _ _ _ _ _
   refine res1 rfl (ResV.tmp rfl) rfl ?_
   rw [dropsB_l (by omega)]
  ·skip
   refine AW.skip ?_
   change AW _ _ _ _ _
   refine AW.seq ?_
   refine AW.seq ?_
   refine AW.region ?_
   refine AL.r (rd_faddr_bx rfl fo_47_10 rfl rfl ⟨_, _, rfl⟩) ?_
   refine AL.r (rd_load_bx rfl ag_45 rfl rfl rfl) ?_
   refine AL.r (rd_len_sl rfl el_45 rfl) ?_
   refine AL.rm ?_
   refine AL.nil ?_
   change AW _ _ _ _ _
   refine AW.block ?_
   refine AW.loopM (ι := Nat) [2, 3, 4, 13, 14, 15, 16, 17, 18, 19, 20, 21, 22, 23, 24, 25, 26, 27, 28, 29, 30, 31, 32, 33, 34, 35, 36, 37, 38, 39] (fun k => [(12, AI (k : Int))]) [1] (fun k => []) (fun k => k ≤ o.drops.length ∧ ∀ i, i < k → okA (dropP o) lessT o.drops i = true) (fun k => o.drops.length - k) 0 (⟨by omega, fun i hi => absurd hi (by omega)⟩) (by simp only [anys, upds, offs, List.set_cons_zero, List.set_cons_succ]; repeat (first | exact Wk.nil | refine Wk.same ?_ | refine Wk.any ?_)) (by simp only [anys, upds, offs, List.set_cons_zero, List.set_cons_succ]; repeat (first | exact Sk.nil _ | refine Sk.same _ ?_ | refine Sk.scr _ (by decide) ?_)) ?_
   rintro k gs hJ
   refine AW.norm (by simp only [anys, upds, offs, List.set_cons_zero, List.set_cons_succ]; rfl) (by (try simp only [anys, upds, offs, List.set_cons_zero, List.set_cons_succ]); (try rfl)) ?_
   obtain ⟨hk, hok⟩ := hJ
   refine AW.seq ?_
   refine AW.region ?_
   refine AL.r (rd_bin rfl rfl rfl (fun _ => rfl)) ?_
   refine AL.nil ?_
   change AW _ _ _ _ _
   refine AW.seq ?_
   refine AW.cd rfl (fun h13 => ?_) (fun h13 => ?_)
   ·skip
    refine AW.skip ?_
    change AW _ _ _ _ _
    refine AW.seq ?_
    refine AW.block ?_
    refine AW.seq ?_
    refine AW.region ?_
    refine AL.rm ?_
    refine AL.r (rd_iaddr_sl rfl el_45 rfl rfl rfl (get_mapA (by omega)) rfl) ?_
    refine AL.r (rd_loadN_ep rfl ag_44 rfl (Nat.le_of_ble_eq_true rfl) rfl) ?_
    refine AL.op rfl (AOpB.op (op_alloc 1 rfl ze_44 rfl ?_))
    refine AL.n ?_
    refine AL.ra ?_
    refine AL.op rfl (op_store_ rfl rfl rfl rfl rfl sz_44 ?_)
    refine AL.n ?_
    refine AL.nil ?_
    change AW _ _ _ _ _
    refine AW.seq ?_
    refine AW.seq ?_
    refine AW.region ?_
    refine AL.r (rd_loadN_bx rfl ag_44 rfl rfl (Nat.le_of_ble_eq_true rfl) rfl) ?_
    refine AL.op rfl (AOpB.op (op_call (tag_c (o.drops[k]'(by omega))) rfl (by kernel_rfl) rfl (none) ?_))
    rintro r rfl
    refine AL.n ?_
    refine AL.r (rd_un rfl rfl (fun _ => rfl)) ?_
    refine AL.rm ?_
    refine AL.fk (d := 20) rfl (fun h20 => ?_) (fun h20 => ?_)
    ·skip
     refine AL.n ?_
     refine AL.rf ?_
     refine AL.rf ?_
     refine AL.rf ?_
     refine AL.rf ?_
     refine AL.r (rd_pick_t rfl rfl rfl) ?_
     refine AL.nil ?_
     change AW _ _ _ _ _
     refine AW.cond_t rfl ?_
     refine AW.seq ?_
     refine AW.region ?_
     refine AL.ra ?_
     refine AL.nil ?_
     change AW _ _ _ _ _
     refine AW.ret ?_
     change ResA _ _ _ _ _
     refine res1 rfl (ResV.tmp rfl) rfl ?_
     rw [dropsB_f (k := k) (by omega) (okA_f (by omega) (by simp_all [dropP, tagD_iff]))]
    ·skip
     refine AL.n ?_
     refine AL.ro (rd_loadN_bx rfl ag_44 rfl rfl (Nat.le_of_ble_eq_true rfl) rfl) ?_
     refine AL.ro (rd_faddr_bx rfl fo_47_0 rfl rfl ⟨_, _, rfl⟩) ?_
     refine AL.ro (rd_loadN_bx rfl ag_44 rfl rfl (Nat.le_of_ble_eq_true rfl) rfl) ?_
     refine AL.ro (rd_eq_Tag rfl rfl rfl) ?_
     refine AL.r (rd_pick_f rfl rfl rfl) ?_
     refine AL.nil ?_
     change AW _ _ _ _ _
     refine AW.cd rfl (fun h25 => ?_) (fun h25 => ?_)
     ·skip
      refine AW.seq ?_
      refine AW.region ?_
      refine AL.ra ?_
      refine AL.nil ?_
      change AW _ _ _ _ _
      refine AW.ret ?_
      change ResA _ _ _ _ _
      refine res1 rfl (ResV.tmp rfl) rfl ?_
      rw [dropsB_f (k := k) (by omega) (okA_f (by omega) (by simp_all [dropP, tagD_iff]))]
     ·skip
      refine AW.skip ?_
      change AW _ _ _ _ _
      refine AW.seq ?_
      refine AW.draw (by kernel_rfl) ?_
      refine AD.r 0 rfl (rd_move rfl rfl) rfl ?_
      refine AD.r 1 rfl (rd_bin rfl rfl rfl (fun _ => rfl)) rfl ?_
      refine AD.r 2 rfl (rd_move rfl rfl) rfl ?_
      refine AD.fk (d := 28) rfl (fun h28 => ?_) (fun h28 => ?_)
      ·skip
       refine AD.n ?_
       refine AD.r 3 rfl (rd_faddr_bx rfl fo_47_10 rfl rfl ⟨_, _, rfl⟩) ⟨_, _, rfl, rfl, rfl⟩ ?_
       refine AD.r 4 rfl (rd_load_bx rfl ag_45 rfl rfl rfl) ⟨_, _, rfl, rfl, rfl⟩ ?_
       refine AD.r 5 rfl (rd_move rfl rfl) ⟨_, _, rfl, rfl, rfl⟩ ?_
       refine AD.r 6 rfl (rd_arith_sub rfl rfl rfl (by first | exact IntWalk.i64_in _ (by omega) | rfl)) ⟨_, _, rfl, rfl, rfl⟩ ?_
       refine AD.r 7 rfl (rd_iaddr_sl rfl el_45 rfl rfl (n := k - 1) (by omega) (get_mapA (by omega)) rfl) ⟨_, _, rfl, rfl, rfl⟩ ?_
       refine AD.r 8 rfl (rd_loadN_ep rfl ag_44 rfl (Nat.le_of_ble_eq_true rfl) rfl) ⟨_, _, rfl, rfl, rfl⟩ ?_
       refine AD.r 9 rfl (rd_loadN_bx rfl ag_44 rfl rfl (Nat.le_of_ble_eq_true rfl) rfl) ⟨_, _, rfl, rfl, rfl⟩ ?_
       refine AD.move 10 rfl (by kernel_rfl) ⟨_, _, rfl, rfl, rfl⟩ (op_call (tless_c (o.drops[k - 1]'(by omega)) (o.drops[k]'(by omega))) rfl (by kernel_rfl) rfl (none) ?_)
       rintro r rfl
       refine AD.n ?_
       refine AD.r 11 rfl (rd_un rfl rfl (fun _ => rfl)) ⟨_, _, rfl, rfl, rfl⟩ ?_
       refine AD.r 12 rfl (rd_pick_t rfl rfl rfl) rfl ?_
       refine AD.done (by kernel_rfl) ?_
       change AW _ _ _ _ _
       refine AW.cd rfl (fun h38 => ?_) (fun h38 => ?_)
       ·skip
        refine AW.seq ?_
        refine AW.region ?_
        refine AL.ra ?_
        refine AL.nil ?_
        change AW _ _ _ _ _
        refine AW.ret ?_
        change ResA _ _ _ _ _
        refine res1 rfl (ResV.tmp rfl) rfl ?_
        rw [dropsB_f (k := k) (by omega) (by rw [okA_s (by omega) (by omega)]; simp_all)]
       ·skip
        refine AW.skip ?_
        change AW _ _ _ _ _
        refine AW.region ?_
        refine AL.r (rd_arith_add rfl rfl rfl (by first | exact IntWalk.i64_in _ (by omega) | rfl)) ?_
        refine AL.rm ?_
        refine AL.nil ?_
        refine ⟨k + 1, ?_, by first | omega | (simp only []; omega), ?_, ?_⟩
        ·exact ⟨by omega, all_next hok (by first | (rw [okA_s (by omega) (by omega)]; simp_all [dropP, tagD_iff] <;> omega) | (obtain rfl : k = 0 := (by omega); rw [okA_0 (by omega)]; simp_all [dropP, tagD_iff] <;> omega))⟩
        ·simp only [anys, upds, offs, List.set_cons_zero, List.set_cons_succ]; repeat (first | exact Wk.nil | refine Wk.same ?_ | refine Wk.any ?_)
        ·simp only [anys, upds, offs, List.set_cons_zero, List.set_cons_succ]; repeat (first | exact Sk.nil _ | refine Sk.same _ ?_ | refine Sk.scr _ (by decide) ?_)
      ·skip
       refine AD.n ?_
       refine AD.s 3 rfl ⟨_, _, rfl, rfl, rfl⟩ ?_
       refine AD.s 4 rfl ⟨_, _, rfl, rfl, rfl⟩ ?_
       refine AD.s 5 rfl ⟨_, _, rfl, rfl, rfl⟩ ?_
       refine AD.s 6 rfl ⟨_, _, rfl, rfl, rfl⟩ ?_
       refine AD.s 7 rfl ⟨_, _, rfl, rfl, rfl⟩ ?_
       refine AD.s 8 rfl ⟨_, _, rfl, rfl, rfl⟩ ?_
       refine AD.s 9 rfl ⟨_, _, rfl, rfl, rfl⟩ ?_
       refine AD.s 10 rfl ⟨_, _, rfl, rfl, rfl⟩ ?_
       refine AD.s 11 rfl ⟨_, _, rfl, rfl, rfl⟩ ?_
       refine AD.r 12 rfl (rd_pick_f rfl rfl rfl) rfl ?_
       refine AD.done (by kernel_rfl) ?_
       change AW _ _ _ _ _
       refine AW.cond_f rfl ?_
       refine AW.skip ?_
       change AW _ _ _ _ _
       refine AW.region ?_
       refine AL.r (rd_arith_add rfl rfl rfl (by first | exact IntWalk.i64_in _ (by omega) | rfl)) ?_
       refine AL.rm ?_
       refine AL.nil ?_
       refine ⟨k + 1, ?_, by first | omega | (simp only []; omega), ?_, ?_⟩
       ·exact ⟨by omega, all_next hok (by first | (rw [okA_s (by omega) (by omega)]; simp_all [dropP, tagD_iff] <;> omega) | (obtain rfl : k = 0 := (by omega); rw [okA_0 (by omega)]; simp_all [dropP, tagD_iff] <;> omega))⟩
       ·simp only [anys, upds, offs, List.set_cons_zero, List.set_cons_succ]; repeat (first | exact Wk.nil | refine Wk.same ?_ | refine Wk.any ?_)
       ·simp only [anys, upds, offs, List.set_cons_zero, List.set_cons_succ]; repeat (first | exact Sk.nil _ | refine Sk.same _ ?_ | refine Sk.scr _ (by decide) ?_)
   ·skip
    refine AW.exit ?_
    change AW _ _ _ _ _
    refine AW.seq ?_
    refine AW.region ?_
    refine AL.ra ?_
    refine AL.nil ?_
    change AW _ _ _ _ _
    refine AW.ret ?_
    change ResA _ _ _ _ _
    refine res1 rfl (ResV.tmp rfl) rfl ?_
    rw [dropsB_t (by omega) (fun i hi => hok i (by omega))]
theorem rtag_c (a : TagD) : AC Try.prog 84 [a.av] (fun r => r = .s (AB (tagB a))) := by
  change AC _ _ [.ag [AI a.rep, AI a.n]] _
  refine AC.of' 20 1 Try.func84 rfl ?_
  change AW _ _ _ _ [TK.mk 0 .off]
  refine AW.seq ?_
  refine AW.region ?_
  refine AL.op rfl (AOpB.op (op_box 0 rfl rfl rfl rfl rfl ?_))
  refine AL.n ?_
  refine AL.ra ?_
  refine AL.nil ?_
  change AW _ _ _ _ _
  refine AW.seq ?_
  refine AW.region ?_
  refine AL.r (rd_faddr_bx rfl fo_44_0 rfl rfl ⟨_, _, rfl⟩) ?_
  refine AL.r (rd_load_bx rfl ag_3 rfl rfl rfl) ?_
  refine AL.r (rd_bin rfl rfl rfl (fun _ => rfl)) ?_
  refine AL.rm ?_
  refine AL.fk (d := 6) rfl (fun h6 => ?_) (fun h6 => ?_)
  ·skip
   refine AL.n ?_
   refine AL.ro (rd_faddr_bx rfl fo_44_0 rfl rfl ⟨_, _, rfl⟩) ?_
   refine AL.ro (rd_load_bx rfl ag_3 rfl rfl rfl) ?_
   refine AL.ro (rd_bin rfl rfl rfl (fun _ => rfl)) ?_
   refine AL.r (rd_pick_t rfl rfl rfl) ?_
   refine AL.rm ?_
   refine AL.fk (d := 11) rfl (fun h11 => ?_) (fun h11 => ?_)
   ·skip
    refine AL.n ?_
    refine AL.ro (rd_faddr_bx rfl fo_44_1 rfl rfl ⟨_, _, rfl⟩) ?_
    refine AL.ro (rd_load_bx rfl ag_3 rfl rfl rfl) ?_
    refine AL.ro (rd_bin rfl rfl rfl (fun _ => rfl)) ?_
    refine AL.r (rd_pick_t rfl rfl rfl) ?_
    refine AL.rm ?_
    refine AL.fk (d := 16) rfl (fun h16 => ?_) (fun h16 => ?_)
    ·skip
     refine AL.n ?_
     refine AL.ro (rd_faddr_bx rfl fo_44_1 rfl rfl ⟨_, _, rfl⟩) ?_
     refine AL.ro (rd_load_bx rfl ag_3 rfl rfl rfl) ?_
     refine AL.ro (rd_bin rfl rfl rfl (fun _ => rfl)) ?_
     refine AL.r (rd_pick_t rfl rfl rfl) ?_
     refine AL.ra ?_
     refine AL.nil ?_
     change AW _ _ _ _ _
     refine AW.ret ?_
     change ResA _ _ _ _ _
     refine res1 rfl (ResV.tmp rfl) rfl ?_
     (first | (simp_all [tagB]; done) | (simp_all [tagB]; omega) | (refine congrArg (fun b => RS.s (AB b)) ?_; rw [Bool.eq_iff_iff]; simp_all [tagB]; omega) | (refine congrArg (fun b => RS.s (AB b)) ?_; rw [Bool.eq_iff_iff]; simp [tagB]; omega))
    ·skip
     refine AL.n ?_
     refine AL.rf ?_
     refine AL.rf ?_
     refine AL.rf ?_
     refine AL.r (rd_pick_f rfl rfl rfl) ?_
     refine AL.ra ?_
     refine AL.nil ?_
     change AW _ _ _ _ _
     refine AW.ret ?_
     change ResA _ _ _ _ _
     refine res1 rfl (ResV.tmp rfl) rfl ?_
     (first | (simp_all [tagB]; done) | (simp_all [tagB]; omega) | (refine congrArg (fun b => RS.s (AB b)) ?_; rw [Bool.eq_iff_iff]; simp_all [tagB]; omega) | (refine congrArg (fun b => RS.s (AB b)) ?_; rw [Bool.eq_iff_iff]; simp [tagB]; omega))
   ·skip
    refine AL.n ?_
    refine AL.rf ?_
    refine AL.rf ?_
    refine AL.rf ?_
    refine AL.r (rd_pick_f rfl rfl rfl) ?_
    refine AL.rm ?_
    refine AL.rf ?_
    refine AL.rf ?_
    refine AL.rf ?_
    refine AL.r (rd_pick_f rfl rfl rfl) ?_
    refine AL.ra ?_
    refine AL.nil ?_
    change AW _ _ _ _ _
    refine AW.ret ?_
    change ResA _ _ _ _ _
    refine res1 rfl (ResV.tmp rfl) rfl ?_
    (first | (simp_all [tagB]; done) | (simp_all [tagB]; omega) | (refine congrArg (fun b => RS.s (AB b)) ?_; rw [Bool.eq_iff_iff]; simp_all [tagB]; omega) | (refine congrArg (fun b => RS.s (AB b)) ?_; rw [Bool.eq_iff_iff]; simp [tagB]; omega))
  ·skip
   refine AL.n ?_
   refine AL.rf ?_
   refine AL.rf ?_
   refine AL.rf ?_
   refine AL.r (rd_pick_f rfl rfl rfl) ?_
   refine AL.rm ?_
   refine AL.rf ?_
   refine AL.rf ?_
   refine AL.rf ?_
   refine AL.r (rd_pick_f rfl rfl rfl) ?_
   refine AL.rm ?_
   refine AL.rf ?_
   refine AL.rf ?_
   refine AL.rf ?_
   refine AL.r (rd_pick_f rfl rfl rfl) ?_
   refine AL.ra ?_
   refine AL.nil ?_
   change AW _ _ _ _ _
   refine AW.ret ?_
   change ResA _ _ _ _ _
   refine res1 rfl (ResV.tmp rfl) rfl ?_
   (first | (simp_all [tagB]; done) | (simp_all [tagB]; omega) | (refine congrArg (fun b => RS.s (AB b)) ?_; rw [Bool.eq_iff_iff]; simp_all [tagB]; omega) | (refine congrArg (fun b => RS.s (AB b)) ?_; rw [Bool.eq_iff_iff]; simp [tagB]; omega))
def plainB (o : OpD) : Bool := decide (o.at_ = ⟨0, [], []⟩) && decide (o.delta = 0) && !o.has && o.text.isEmpty
theorem plain_c (o : OpD) : AC Try.prog 133 [o.av] (fun r => r = .s (AB (plainB o))) := by
  change AC _ _ [.ag [AI o.id.rep, AI o.id.n, AI o.schema.rep, AI o.schema.n, AI o.time, AS o.cart, AI o.kind, AS o.item, AI o.at_.scope, AS o.at_.group, AS o.at_.name, AI o.delta, AB o.has, AS o.text, .sl (o.drops.map TagD.cs)]] _
  refine AC.of' 21 1 Try.func133 rfl ?_
  change AW _ _ _ _ [TK.mk 0 .off]
  refine AW.seq ?_
  refine AW.region ?_
  refine AL.op rfl (AOpB.op (op_box 0 rfl rfl rfl rfl rfl ?_))
  refine AL.n ?_
  refine AL.ra ?_
  refine AL.nil ?_
  change AW _ _ _ _ _
  refine AW.seq ?_
  refine AW.region ?_
  refine AL.r (rd_faddr_bx rfl fo_47_6 rfl rfl ⟨_, _, rfl⟩) ?_
  refine AL.r (rd_loadN_bx rfl ag_27 rfl rfl (Nat.le_of_ble_eq_true rfl) rfl) ?_
  refine AL.r (rd_build rfl pl_27 ze_27 rfl rfl) ?_
  refine AL.r (rd_eq_Ref rfl rfl rfl) ?_
  refine AL.rm ?_
  refine AL.fk (d := 7) rfl (fun h7 => ?_) (fun h7 => ?_)
  ·skip
   refine AL.n ?_
   refine AL.ro (rd_faddr_bx rfl fo_47_7 rfl rfl ⟨_, _, rfl⟩) ?_
   refine AL.ro (rd_load_bx rfl ag_2 rfl rfl rfl) ?_
   refine AL.ro (rd_bin rfl rfl rfl (fun _ => rfl)) ?_
   refine AL.r (rd_pick_t rfl rfl rfl) ?_
   refine AL.rm ?_
   refine AL.fk (d := 12) rfl (fun h12 => ?_) (fun h12 => ?_)
   ·skip
    refine AL.n ?_
    refine AL.ro (rd_faddr_bx rfl fo_47_8 rfl rfl ⟨_, _, rfl⟩) ?_
    refine AL.ro (rd_load_bx rfl ag_4 rfl rfl rfl) ?_
    refine AL.ro (rd_un rfl rfl (fun _ => rfl)) ?_
    refine AL.r (rd_pick_t rfl rfl rfl) ?_
    refine AL.rm ?_
    refine AL.fk (d := 17) rfl (fun h17 => ?_) (fun h17 => ?_)
    ·skip
     refine AL.n ?_
     refine AL.ro (rd_faddr_bx rfl fo_47_9 rfl rfl ⟨_, _, rfl⟩) ?_
     refine AL.ro (rd_load_bx rfl ag_9 rfl rfl rfl) ?_
     refine AL.ro (rd_seq rfl rfl rfl) ?_
     refine AL.r (rd_pick_t rfl rfl rfl) ?_
     refine AL.ra ?_
     refine AL.nil ?_
     change AW _ _ _ _ _
     refine AW.ret ?_
     change ResA _ _ _ _ _
     refine res1 rfl (ResV.tmp rfl) rfl ?_
     simp_all [plainB, refD_iff]
    ·skip
     refine AL.n ?_
     refine AL.rf ?_
     refine AL.rf ?_
     refine AL.rf ?_
     refine AL.r (rd_pick_f rfl rfl rfl) ?_
     refine AL.ra ?_
     refine AL.nil ?_
     change AW _ _ _ _ _
     refine AW.ret ?_
     change ResA _ _ _ _ _
     refine res1 rfl (ResV.tmp rfl) rfl ?_
     simp_all [plainB, refD_iff]
   ·skip
    refine AL.n ?_
    refine AL.rf ?_
    refine AL.rf ?_
    refine AL.rf ?_
    refine AL.r (rd_pick_f rfl rfl rfl) ?_
    refine AL.rm ?_
    refine AL.rf ?_
    refine AL.rf ?_
    refine AL.rf ?_
    refine AL.r (rd_pick_f rfl rfl rfl) ?_
    refine AL.ra ?_
    refine AL.nil ?_
    change AW _ _ _ _ _
    refine AW.ret ?_
    change ResA _ _ _ _ _
    refine res1 rfl (ResV.tmp rfl) rfl ?_
    simp_all [plainB, refD_iff]
  ·skip
   refine AL.n ?_
   refine AL.rf ?_
   refine AL.rf ?_
   refine AL.rf ?_
   refine AL.r (rd_pick_f rfl rfl rfl) ?_
   refine AL.rm ?_
   refine AL.rf ?_
   refine AL.rf ?_
   refine AL.rf ?_
   refine AL.r (rd_pick_f rfl rfl rfl) ?_
   refine AL.rm ?_
   refine AL.rf ?_
   refine AL.rf ?_
   refine AL.rf ?_
   refine AL.r (rd_pick_f rfl rfl rfl) ?_
   refine AL.ra ?_
   refine AL.nil ?_
   change AW _ _ _ _ _
   refine AW.ret ?_
   change ResA _ _ _ _ _
   refine res1 rfl (ResV.tmp rfl) rfl ?_
   simp_all [plainB, refD_iff]
theorem rdrops_c (o : OpD) : AC Try.prog 132 [o.av] (fun r => r = .s (AB (dropsB o))) := by
  change AC _ _ [.ag [AI o.id.rep, AI o.id.n, AI o.schema.rep, AI o.schema.n, AI o.time, AS o.cart, AI o.kind, AS o.item, AI o.at_.scope, AS o.at_.group, AS o.at_.name, AI o.delta, AB o.has, AS o.text, .sl (o.drops.map TagD.cs)]] _
  refine AC.of' 50 1 Try.func132 rfl ?_
  change AW _ _ _ _ [TK.mk 0 .off]
  refine AW.seq ?_
  refine AW.region ?_
  refine AL.op rfl (AOpB.op (op_box 0 rfl rfl rfl rfl rfl ?_))
  refine AL.n ?_
  refine AL.ra ?_
  refine AL.nil ?_
  change AW _ _ _ _ _
  refine AW.seq ?_
  refine AW.seq ?_
  refine AW.region ?_
  refine AL.r (rd_faddr_bx rfl fo_47_10 rfl rfl ⟨_, _, rfl⟩) ?_
  refine AL.r (rd_load_bx rfl ag_45 rfl rfl rfl) ?_
  refine AL.r (rd_len_sl rfl el_45 rfl) ?_
  refine AL.r (rd_bin rfl rfl rfl (fun _ => rfl)) ?_
  refine AL.nil ?_
  change AW _ _ _ _ _
  refine AW.cd rfl (fun h7 => ?_) (fun h7 => ?_)
  ·skip
   refine AW.seq ?_
   refine AW.region ?_
   refine AL.ra ?_
   refine AL.nil ?_
   change AW _ _ _ _ _
   refine AW.ret ?_
   change ResA _ _ _ _ _
   refine res1 rfl (ResV.tmp rfl) rfl ?_
   rw [dropsB_l (by omega)]
  ·skip
   refine AW.skip ?_
   change AW _ _ _ _ _
   refine AW.seq ?_
   refine AW.seq ?_
   refine AW.region ?_
   refine AL.ra ?_
   refine AL.nil ?_
   change AW _ _ _ _ _
   refine AW.block ?_
   refine AW.loopM (ι := Nat) [2, 8, 9, 10, 11, 12, 13, 14, 15, 16, 17, 18, 19, 20, 21, 22, 23, 24, 25, 26, 27, 28, 29, 30, 31, 32, 33, 34, 35, 36, 37, 38, 39, 40, 41, 42, 43, 44, 45, 46, 47, 48, 49, 50] (fun k => [(3, AI (k : Int))]) [] (fun k => []) (fun k => k ≤ o.drops.length ∧ ∀ i, i < k → okA (dropP o) lessT o.drops i = true) (fun k => o.drops.length - k) 0 (⟨by omega, fun i hi => absurd hi (by omega)⟩) (by simp only [anys, upds, offs, List.set_cons_zero, List.set_cons_succ]; repeat (first | exact Wk.nil | refine Wk.same ?_ | refine Wk.any ?_)) (by simp only [anys, upds, offs, List.set_cons_zero, List.set_cons_succ]; repeat (first | exact Sk.nil _ | refine Sk.same _ ?_ | refine Sk.scr _ (by decide) ?_)) ?_
   rintro k gs hJ
   refine AW.norm (by simp only [anys, upds, offs, List.set_cons_zero, List.set_cons_succ]; rfl) (by (try simp only [anys, upds, offs, List.set_cons_zero, List.set_cons_succ]); (try rfl)) ?_
   obtain ⟨hk, hok⟩ := hJ
   refine AW.seq ?_
   refine AW.seq ?_
   refine AW.region ?_
   refine AL.rm ?_
   refine AL.r (rd_faddr_bx rfl fo_47_10 rfl rfl ⟨_, _, rfl⟩) ?_
   refine AL.r (rd_load_bx rfl ag_45 rfl rfl rfl) ?_
   refine AL.r (rd_len_sl rfl el_45 rfl) ?_
   refine AL.r (rd_bin rfl rfl rfl (fun _ => rfl)) ?_
   refine AL.nil ?_
   change AW _ _ _ _ _
   refine AW.cd rfl (fun h12 => ?_) (fun h12 => ?_)
   ·skip
    refine AW.skip ?_
    change AW _ _ _ _ _
    refine AW.seq ?_
    refine AW.block ?_
    refine AW.seq ?_
    refine AW.draw (by kernel_rfl) ?_
    refine AD.r 0 rfl (rd_faddr_bx rfl fo_47_10 rfl rfl ⟨_, _, rfl⟩) rfl ?_
    refine AD.r 1 rfl (rd_load_bx rfl ag_45 rfl rfl rfl) rfl ?_
    refine AD.r 2 rfl (rd_move rfl rfl) rfl ?_
    refine AD.r 3 rfl (rd_iaddr_sl rfl el_45 rfl rfl rfl (get_mapA (by omega)) rfl) rfl ?_
    refine AD.r 4 rfl (rd_loadN_ep rfl ag_44 rfl (Nat.le_of_ble_eq_true rfl) rfl) rfl ?_
    refine AD.move 5 rfl (by kernel_rfl) rfl (op_call (rtag_c (o.drops[k]'(by omega))) rfl (by kernel_rfl) rfl (none) ?_)
    rintro r rfl
    refine AD.n ?_
    refine AD.r 6 rfl (rd_un rfl rfl (fun _ => rfl)) rfl ?_
    refine AD.r 7 rfl (rd_move rfl rfl) rfl ?_
    refine AD.fk (d := 22) rfl (fun h22 => ?_) (fun h22 => ?_)
    ·skip
     refine AD.n ?_
     refine AD.s 8 rfl ⟨_, _, rfl, rfl, rfl⟩ ?_
     refine AD.s 9 rfl ⟨_, _, rfl, rfl, rfl⟩ ?_
     refine AD.s 10 rfl ⟨_, _, rfl, rfl, rfl⟩ ?_
     refine AD.s 11 rfl ⟨_, _, rfl, rfl, rfl⟩ ?_
     refine AD.s 12 rfl ⟨_, _, rfl, rfl, rfl⟩ ?_
     refine AD.s 13 rfl ⟨_, _, rfl, rfl, rfl⟩ ?_
     refine AD.s 14 rfl ⟨_, _, rfl, rfl, rfl⟩ ?_
     refine AD.s 15 rfl ⟨_, _, rfl, rfl, rfl⟩ ?_
     refine AD.r 16 rfl (rd_pick_t rfl rfl rfl) rfl ?_
     refine AD.r 17 rfl (rd_move rfl rfl) rfl ?_
     refine AD.s 18 rfl ⟨_, _, rfl, rfl, rfl⟩ ?_
     refine AD.s 19 rfl ⟨_, _, rfl, rfl, rfl⟩ ?_
     refine AD.s 20 rfl ⟨_, _, rfl, rfl, rfl⟩ ?_
     refine AD.s 21 rfl ⟨_, _, rfl, rfl, rfl⟩ ?_
     refine AD.s 22 rfl ⟨_, _, rfl, rfl, rfl⟩ ?_
     refine AD.s 23 rfl ⟨_, _, rfl, rfl, rfl⟩ ?_
     refine AD.s 24 rfl ⟨_, _, rfl, rfl, rfl⟩ ?_
     refine AD.s 25 rfl ⟨_, _, rfl, rfl, rfl⟩ ?_
     refine AD.s 26 rfl ⟨_, _, rfl, rfl, rfl⟩ ?_
     refine AD.s 27 rfl ⟨_, _, rfl, rfl, rfl⟩ ?_
     refine AD.s 28 rfl ⟨_, _, rfl, rfl, rfl⟩ ?_
     refine AD.s 29 rfl ⟨_, _, rfl, rfl, rfl⟩ ?_
     refine AD.s 30 rfl ⟨_, _, rfl, rfl, rfl⟩ ?_
     refine AD.s 31 rfl ⟨_, _, rfl, rfl, rfl⟩ ?_
     refine AD.s 32 rfl ⟨_, _, rfl, rfl, rfl⟩ ?_
     refine AD.s 33 rfl ⟨_, _, rfl, rfl, rfl⟩ ?_
     refine AD.s 34 rfl ⟨_, _, rfl, rfl, rfl⟩ ?_
     refine AD.r 35 rfl (rd_pick_t rfl rfl rfl) rfl ?_
     refine AD.done (by kernel_rfl) ?_
     change AW _ _ _ _ _
     refine AW.cond_t rfl ?_
     refine AW.seq ?_
     refine AW.region ?_
     refine AL.ra ?_
     refine AL.nil ?_
     change AW _ _ _ _ _
     refine AW.ret ?_
     change ResA _ _ _ _ _
     refine res1 rfl (ResV.tmp rfl) rfl ?_
     rw [dropsB_f (k := k) (by omega) (by rcases Nat.eq_zero_or_pos k with h0 | h0; (first | (exfalso; omega) | (subst h0; rw [okA_0 (by omega)]; simp_all [dropP, tagD_iff])); (rw [okA_s (by omega) h0]; simp_all [dropP, tagD_iff]))]
    ·skip
     refine AD.n ?_
     refine AD.r 8 rfl (rd_faddr_bx rfl fo_47_10 rfl rfl ⟨_, _, rfl⟩) ⟨_, _, rfl, rfl, rfl⟩ ?_
     refine AD.r 9 rfl (rd_load_bx rfl ag_45 rfl rfl rfl) ⟨_, _, rfl, rfl, rfl⟩ ?_
     refine AD.r 10 rfl (rd_move rfl rfl) ⟨_, _, rfl, rfl, rfl⟩ ?_
     refine AD.r 11 rfl (rd_iaddr_sl rfl el_45 rfl rfl rfl (get_mapA (by omega)) rfl) ⟨_, _, rfl, rfl, rfl⟩ ?_
     refine AD.r 12 rfl (rd_loadN_ep rfl ag_44 rfl (Nat.le_of_ble_eq_true rfl) rfl) ⟨_, _, rfl, rfl, rfl⟩ ?_
     refine AD.r 13 rfl (rd_faddr_bx rfl fo_47_0 rfl rfl ⟨_, _, rfl⟩) ⟨_, _, rfl, rfl, rfl⟩ ?_
     refine AD.r 14 rfl (rd_loadN_bx rfl ag_44 rfl rfl (Nat.le_of_ble_eq_true rfl) rfl) ⟨_, _, rfl, rfl, rfl⟩ ?_
     refine AD.r 15 rfl (rd_eq_Tag rfl rfl rfl) ⟨_, _, rfl, rfl, rfl⟩ ?_
     refine AD.r 16 rfl (rd_pick_f rfl rfl rfl) rfl ?_
     refine AD.r 17 rfl (rd_move rfl rfl) rfl ?_
     refine AD.fk (d := 32) rfl (fun h32 => ?_) (fun h32 => ?_)
     ·skip
      refine AD.n ?_
      refine AD.s 18 rfl ⟨_, _, rfl, rfl, rfl⟩ ?_
      refine AD.s 19 rfl ⟨_, _, rfl, rfl, rfl⟩ ?_
      refine AD.s 20 rfl ⟨_, _, rfl, rfl, rfl⟩ ?_
      refine AD.s 21 rfl ⟨_, _, rfl, rfl, rfl⟩ ?_
      refine AD.s 22 rfl ⟨_, _, rfl, rfl, rfl⟩ ?_
      refine AD.s 23 rfl ⟨_, _, rfl, rfl, rfl⟩ ?_
      refine AD.s 24 rfl ⟨_, _, rfl, rfl, rfl⟩ ?_
      refine AD.s 25 rfl ⟨_, _, rfl, rfl, rfl⟩ ?_
      refine AD.s 26 rfl ⟨_, _, rfl, rfl, rfl⟩ ?_
      refine AD.s 27 rfl ⟨_, _, rfl, rfl, rfl⟩ ?_
      refine AD.s 28 rfl ⟨_, _, rfl, rfl, rfl⟩ ?_
      refine AD.s 29 rfl ⟨_, _, rfl, rfl, rfl⟩ ?_
      refine AD.s 30 rfl ⟨_, _, rfl, rfl, rfl⟩ ?_
      refine AD.s 31 rfl ⟨_, _, rfl, rfl, rfl⟩ ?_
      refine AD.s 32 rfl ⟨_, _, rfl, rfl, rfl⟩ ?_
      refine AD.s 33 rfl ⟨_, _, rfl, rfl, rfl⟩ ?_
      refine AD.s 34 rfl ⟨_, _, rfl, rfl, rfl⟩ ?_
      refine AD.r 35 rfl (rd_pick_t rfl rfl rfl) rfl ?_
      refine AD.done (by kernel_rfl) ?_
      change AW _ _ _ _ _
      refine AW.cond_t rfl ?_
      refine AW.seq ?_
      refine AW.region ?_
      refine AL.ra ?_
      refine AL.nil ?_
      change AW _ _ _ _ _
      refine AW.ret ?_
      change ResA _ _ _ _ _
      refine res1 rfl (ResV.tmp rfl) rfl ?_
      rw [dropsB_f (k := k) (by omega) (by rcases Nat.eq_zero_or_pos k with h0 | h0; (first | (exfalso; omega) | (subst h0; rw [okA_0 (by omega)]; simp_all [dropP, tagD_iff])); (rw [okA_s (by omega) h0]; simp_all [dropP, tagD_iff]))]
     ·skip
      refine AD.n ?_
      refine AD.r 18 rfl (rd_move rfl rfl) ⟨_, _, rfl, rfl, rfl⟩ ?_
      refine AD.r 19 rfl (rd_bin rfl rfl rfl (fun _ => rfl)) ⟨_, _, rfl, rfl, rfl⟩ ?_
      refine AD.r 20 rfl (rd_move rfl rfl) ⟨_, _, rfl, rfl, rfl⟩ ?_
      refine AD.fk (d := 35) rfl (fun h35 => ?_) (fun h35 => ?_)
      ·skip
       refine AD.n ?_
       refine AD.r 21 rfl (rd_faddr_bx rfl fo_47_10 rfl rfl ⟨_, _, rfl⟩) ⟨_, _, rfl, rfl, rfl⟩ ?_
       refine AD.r 22 rfl (rd_load_bx rfl ag_45 rfl rfl rfl) ⟨_, _, rfl, rfl, rfl⟩ ?_
       refine AD.r 23 rfl (rd_move rfl rfl) ⟨_, _, rfl, rfl, rfl⟩ ?_
       refine AD.r 24 rfl (rd_arith_sub rfl rfl rfl (by first | exact IntWalk.i64_in _ (by omega) | rfl)) ⟨_, _, rfl, rfl, rfl⟩ ?_
       refine AD.r 25 rfl (rd_iaddr_sl rfl el_45 rfl rfl (n := k - 1) (by omega) (get_mapA (by omega)) rfl) ⟨_, _, rfl, rfl, rfl⟩ ?_
       refine AD.r 26 rfl (rd_loadN_ep rfl ag_44 rfl (Nat.le_of_ble_eq_true rfl) rfl) ⟨_, _, rfl, rfl, rfl⟩ ?_
       refine AD.r 27 rfl (rd_faddr_bx rfl fo_47_10 rfl rfl ⟨_, _, rfl⟩) ⟨_, _, rfl, rfl, rfl⟩ ?_
       refine AD.r 28 rfl (rd_load_bx rfl ag_45 rfl rfl rfl) ⟨_, _, rfl, rfl, rfl⟩ ?_
       refine AD.r 29 rfl (rd_move rfl rfl) ⟨_, _, rfl, rfl, rfl⟩ ?_
       refine AD.r 30 rfl (rd_iaddr_sl rfl el_45 rfl rfl rfl (get_mapA (by omega)) rfl) ⟨_, _, rfl, rfl, rfl⟩ ?_
       refine AD.r 31 rfl (rd_loadN_ep rfl ag_44 rfl (Nat.le_of_ble_eq_true rfl) rfl) ⟨_, _, rfl, rfl, rfl⟩ ?_
       refine AD.move 32 rfl (by kernel_rfl) ⟨_, _, rfl, rfl, rfl⟩ (op_call (rtless_c (o.drops[k - 1]'(by omega)) (o.drops[k]'(by omega))) rfl (by kernel_rfl) rfl (none) ?_)
       rintro r rfl
       refine AD.n ?_
       refine AD.r 33 rfl (rd_un rfl rfl (fun _ => rfl)) ⟨_, _, rfl, rfl, rfl⟩ ?_
       refine AD.r 34 rfl (rd_pick_t rfl rfl rfl) ⟨_, _, rfl, rfl, rfl⟩ ?_
       refine AD.r 35 rfl (rd_pick_f rfl rfl rfl) rfl ?_
       refine AD.done (by kernel_rfl) ?_
       change AW _ _ _ _ _
       refine AW.cd rfl (fun h50 => ?_) (fun h50 => ?_)
       ·skip
        refine AW.seq ?_
        refine AW.region ?_
        refine AL.ra ?_
        refine AL.nil ?_
        change AW _ _ _ _ _
        refine AW.ret ?_
        change ResA _ _ _ _ _
        refine res1 rfl (ResV.tmp rfl) rfl ?_
        rw [dropsB_f (k := k) (by omega) (by rcases Nat.eq_zero_or_pos k with h0 | h0; (first | (exfalso; omega) | (subst h0; rw [okA_0 (by omega)]; simp_all [dropP, tagD_iff])); (rw [okA_s (by omega) h0]; simp_all [dropP, tagD_iff]))]
       ·skip
        refine AW.skip ?_
        change AW _ _ _ _ _
        refine AW.region ?_
        refine AL.rm ?_
        refine AL.r (rd_arith_add rfl rfl rfl (by first | exact IntWalk.i64_in _ (by omega) | rfl)) ?_
        refine AL.ra ?_
        refine AL.nil ?_
        refine ⟨k + 1, ?_, by first | omega | (simp only []; omega), ?_, ?_⟩
        ·exact ⟨by omega, all_next hok (by first | (rw [okA_s (by omega) (by omega)]; simp_all [dropP, tagD_iff] <;> omega) | (obtain rfl : k = 0 := (by omega); rw [okA_0 (by omega)]; simp_all [dropP, tagD_iff] <;> omega))⟩
        ·simp only [anys, upds, offs, List.set_cons_zero, List.set_cons_succ]; repeat (first | exact Wk.nil | refine Wk.same ?_ | refine Wk.any ?_)
        ·simp only [anys, upds, offs, List.set_cons_zero, List.set_cons_succ]; repeat (first | exact Sk.nil _ | refine Sk.same _ ?_ | refine Sk.scr _ (by decide) ?_)
      ·skip
       refine AD.n ?_
       refine AD.s 21 rfl ⟨_, _, rfl, rfl, rfl⟩ ?_
       refine AD.s 22 rfl ⟨_, _, rfl, rfl, rfl⟩ ?_
       refine AD.s 23 rfl ⟨_, _, rfl, rfl, rfl⟩ ?_
       refine AD.s 24 rfl ⟨_, _, rfl, rfl, rfl⟩ ?_
       refine AD.s 25 rfl ⟨_, _, rfl, rfl, rfl⟩ ?_
       refine AD.s 26 rfl ⟨_, _, rfl, rfl, rfl⟩ ?_
       refine AD.s 27 rfl ⟨_, _, rfl, rfl, rfl⟩ ?_
       refine AD.s 28 rfl ⟨_, _, rfl, rfl, rfl⟩ ?_
       refine AD.s 29 rfl ⟨_, _, rfl, rfl, rfl⟩ ?_
       refine AD.s 30 rfl ⟨_, _, rfl, rfl, rfl⟩ ?_
       refine AD.s 31 rfl ⟨_, _, rfl, rfl, rfl⟩ ?_
       refine AD.s 32 rfl ⟨_, _, rfl, rfl, rfl⟩ ?_
       refine AD.s 33 rfl ⟨_, _, rfl, rfl, rfl⟩ ?_
       refine AD.r 34 rfl (rd_pick_f rfl rfl rfl) ⟨_, _, rfl, rfl, rfl⟩ ?_
       refine AD.r 35 rfl (rd_pick_f rfl rfl rfl) rfl ?_
       refine AD.done (by kernel_rfl) ?_
       change AW _ _ _ _ _
       refine AW.cond_f rfl ?_
       refine AW.skip ?_
       change AW _ _ _ _ _
       refine AW.region ?_
       refine AL.rm ?_
       refine AL.r (rd_arith_add rfl rfl rfl (by first | exact IntWalk.i64_in _ (by omega) | rfl)) ?_
       refine AL.ra ?_
       refine AL.nil ?_
       refine ⟨k + 1, ?_, by first | omega | (simp only []; omega), ?_, ?_⟩
       ·exact ⟨by omega, all_next hok (by first | (rw [okA_s (by omega) (by omega)]; simp_all [dropP, tagD_iff] <;> omega) | (obtain rfl : k = 0 := (by omega); rw [okA_0 (by omega)]; simp_all [dropP, tagD_iff] <;> omega))⟩
       ·simp only [anys, upds, offs, List.set_cons_zero, List.set_cons_succ]; repeat (first | exact Wk.nil | refine Wk.same ?_ | refine Wk.any ?_)
       ·simp only [anys, upds, offs, List.set_cons_zero, List.set_cons_succ]; repeat (first | exact Sk.nil _ | refine Sk.same _ ?_ | refine Sk.scr _ (by decide) ?_)
   ·skip
    refine AW.exit ?_
    change AW _ _ _ _ _
    refine AW.seq ?_
    refine AW.region ?_
    refine AL.ra ?_
    refine AL.nil ?_
    change AW _ _ _ _ _
    refine AW.ret ?_
    change ResA _ _ _ _ _
    refine res1 rfl (ResV.tmp rfl) rfl ?_
    rw [dropsB_t (by omega) (fun i hi => hok i (by omega))]
def plO (o : OpD) : Bool := decide (o.kind = 3) || decide (o.kind = 4)
def itO (o : OpD) : Bool := decide (o.kind = 1) || decide (o.kind = 2) || (plO o && decide (o.at_.scope = 1))
def sO (o : OpD) : Bool := decide (o = (partsO o).1)
theorem osame_p (o p : OpD) (hp : p = (partsO o).1) : AC Try.prog 69 [o.av, p.av] (fun r => r = .s (AB (sO o))) := by subst hp; exact osame_c o _
def rightO (o : OpD) : Bool := (partsO o).2 && sO o && tagB o.id && (decide (o.schema = ⟨0, 0⟩) || tagB o.schema) && decide (1 ≤ o.time) && decide (o.time ≤ 1099511627776) && nameB o.cart && (!plO o || placeB o.at_) && (!itO o || nameB o.item) && decide (-1048576 ≤ o.delta) && decide (o.delta ≤ 1048576) && decide (o.text.length ≤ 40) && dropsB o
theorem parts_g (o : OpD) : AC Try.prog 125 [o.av] (fun r => ∃ p : OpD, p = (partsO o).1 ∧ r = .s (.tu [.ag [AI p.id.rep, AI p.id.n, AI p.schema.rep, AI p.schema.n, AI p.time, AS p.cart, AI p.kind, AS p.item, AI p.at_.scope, AS p.at_.group, AS p.at_.name, AI p.delta, AB p.has, AS p.text, .sl (p.drops.map TagD.cs)], AB (partsO o).2])) := (parts_c o).mono fun r hr => ⟨_, rfl, hr⟩
theorem oright_g (o : OpD) : AC Try.prog 70 [o.av] (fun r => r = .s (AB (rightO o))) := by
  change AC _ _ [.ag [AI o.id.rep, AI o.id.n, AI o.schema.rep, AI o.schema.n, AI o.time, AS o.cart, AI o.kind, AS o.item, AI o.at_.scope, AS o.at_.group, AS o.at_.name, AI o.delta, AB o.has, AS o.text, .sl (o.drops.map TagD.cs)]] _
  refine AC.of' 96 2 Try.func70 rfl ?_
  change AW _ _ _ _ [TK.mk 0 .off, TK.mk 0 .off]
  refine AW.seq ?_
  refine AW.region ?_
  refine AL.op rfl (AOpB.op (op_box 0 rfl rfl rfl rfl rfl ?_))
  refine AL.n ?_
  refine AL.ra ?_
  refine AL.nil ?_
  change AW _ _ _ _ _
  refine AW.seq ?_
  refine AW.region ?_
  refine AL.r (rd_loadN_bx rfl ag_47 rfl rfl (Nat.le_of_ble_eq_true rfl) rfl) ?_
  refine AL.op rfl (AOpB.op (op_call (parts_g o) rfl (by kernel_rfl) rfl (none) ?_))
  rintro r ⟨p, hp, rfl⟩
  refine AL.n ?_
  refine AL.rm ?_
  refine AL.r (rd_extract rfl rfl rfl) ?_
  refine AL.r (rd_extract rfl rfl rfl) ?_
  refine AL.op rfl (AOpB.op (op_alloc 1 rfl ze_47 rfl ?_))
  refine AL.n ?_
  refine AL.op rfl (op_store_ rfl rfl rfl rfl rfl sz_47 ?_)
  refine AL.n ?_
  refine AL.ra ?_
  refine AL.nil ?_
  change AW _ _ _ _ _
  refine AW.seq ?_
  refine AW.seq ?_
  refine AW.region ?_
  refine AL.rm ?_
  refine AL.r (rd_un rfl rfl (fun _ => rfl)) ?_
  refine AL.rm ?_
  refine AL.fk (d := 13) rfl (fun h13 => ?_) (fun h13 => ?_)
  ·skip
   refine AL.n ?_
   refine AL.rf ?_
   refine AL.rf ?_
   refine AL.rf ?_
   refine AL.rf ?_
   refine AL.r (rd_pick_t rfl rfl rfl) ?_
   refine AL.nil ?_
   change AW _ _ _ _ _
   refine AW.cond_t rfl ?_
   refine AW.seq ?_
   refine AW.region ?_
   refine AL.ra ?_
   refine AL.nil ?_
   change AW _ _ _ _ _
   refine AW.ret ?_
   change ResA _ _ _ _ _
   refine res1 rfl (ResV.tmp rfl) rfl ?_
   refine congrArg (fun b => RS.s (AB b)) ?_
   clear hp; simp_all [rightO]
  ·skip
   refine AL.n ?_
   refine AL.ro (rd_loadN_bx rfl ag_47 rfl rfl (Nat.le_of_ble_eq_true rfl) rfl) ?_
   refine AL.ro (rd_loadN_bx rfl ag_47 rfl rfl (Nat.le_of_ble_eq_true rfl) rfl) ?_
   refine AL.on rfl rfl rfl (AOpB.op (op_call (osame_p o p hp) rfl (by kernel_rfl) rfl (none) ?_))
   rintro r rfl
   refine AL.n ?_
   refine AL.ro (rd_un rfl rfl (fun _ => rfl)) ?_
   refine AL.r (rd_pick_f rfl rfl rfl) ?_
   refine AL.nil ?_
   change AW _ _ _ _ _
   refine AW.cd rfl (fun h18 => ?_) (fun h18 => ?_)
   ·skip
    refine AW.seq ?_
    refine AW.region ?_
    refine AL.ra ?_
    refine AL.nil ?_
    change AW _ _ _ _ _
    refine AW.ret ?_
    change ResA _ _ _ _ _
    refine res1 rfl (ResV.tmp rfl) rfl ?_
    refine congrArg (fun b => RS.s (AB b)) ?_
    clear hp; simp_all [rightO]
   ·skip
    refine AW.skip ?_
    change AW _ _ _ _ _
    refine AW.join (ι := Unit) [2, 19, 20, 21, 22, 23, 24, 25, 26, 27, 28, 29, 30, 31, 32, 33, 34] (fun u34 => []) [] (fun u34 => []) (fun u34 => tagB o.id = true ∧ (decide (o.schema = ⟨0, 0⟩) || tagB o.schema) = true) ?_ ?_
    ·skip
     refine AW.seq ?_
     refine AW.region ?_
     clear hp
     refine AL.r (rd_faddr_bx rfl fo_47_0 rfl rfl ⟨_, _, rfl⟩) ?_
     refine AL.r (rd_loadN_bx rfl ag_44 rfl rfl (Nat.le_of_ble_eq_true rfl) rfl) ?_
     refine AL.op rfl (AOpB.op (op_call (tag_c o.id) rfl (by kernel_rfl) rfl (none) ?_))
     rintro r rfl
     refine AL.n ?_
     refine AL.r (rd_un rfl rfl (fun _ => rfl)) ?_
     refine AL.rm ?_
     refine AL.fk (d := 23) rfl (fun h23 => ?_) (fun h23 => ?_)
     ·skip
      refine AL.n ?_
      refine AL.rf ?_
      refine AL.rf ?_
      refine AL.rf ?_
      refine AL.rf ?_
      refine AL.rf ?_
      refine AL.ru ?_
      refine AL.ru ?_
      refine AL.ru ?_
      refine AL.ru ?_
      refine AL.rf ?_
      refine AL.r (rd_pick_t rfl rfl rfl) ?_
      refine AL.nil ?_
      change AW _ _ _ _ _
      refine AW.cond_t rfl ?_
      refine AW.seq ?_
      refine AW.region ?_
      refine AL.ra ?_
      refine AL.nil ?_
      change AW _ _ _ _ _
      refine AW.ret ?_
      change ResA _ _ _ _ _
      refine res1 rfl (ResV.tmp rfl) rfl ?_
      refine congrArg (fun b => RS.s (AB b)) ?_
      simp_all [rightO, tagD_iff]
     ·skip
      refine AL.n ?_
      refine AL.ro (rd_faddr_bx rfl fo_47_1 rfl rfl ⟨_, _, rfl⟩) ?_
      refine AL.ro (rd_loadN_bx rfl ag_44 rfl rfl (Nat.le_of_ble_eq_true rfl) rfl) ?_
      refine AL.ro (rd_build rfl pl_44 ze_44 rfl rfl) ?_
      refine AL.ro (rd_ne_Tag rfl rfl rfl) ?_
      refine AL.ro (rd_move rfl rfl) ?_
      refine AL.fk (d := 28) rfl (fun h28 => ?_) (fun h28 => ?_)
      ·skip
       refine AL.n ?_
       refine AL.ro (rd_faddr_bx rfl fo_47_1 rfl rfl ⟨_, _, rfl⟩) ?_
       refine AL.ro (rd_loadN_bx rfl ag_44 rfl rfl (Nat.le_of_ble_eq_true rfl) rfl) ?_
       refine AL.on rfl rfl rfl (AOpB.op (op_call (tag_c o.schema) rfl (by kernel_rfl) rfl (none) ?_))
       rintro r rfl
       refine AL.n ?_
       refine AL.ro (rd_un rfl rfl (fun _ => rfl)) ?_
       refine AL.ro (rd_pick_t rfl rfl rfl) ?_
       refine AL.r (rd_pick_f rfl rfl rfl) ?_
       refine AL.nil ?_
       change AW _ _ _ _ _
       refine AW.cd rfl (fun h34 => ?_) (fun h34 => ?_)
       ·skip
        refine AW.seq ?_
        refine AW.region ?_
        refine AL.ra ?_
        refine AL.nil ?_
        change AW _ _ _ _ _
        refine AW.ret ?_
        change ResA _ _ _ _ _
        refine res1 rfl (ResV.tmp rfl) rfl ?_
        refine congrArg (fun b => RS.s (AB b)) ?_
        simp_all [rightO, tagD_iff]
       ·skip
        refine AW.skip ?_
        refine ⟨(), by simp_all [tagD_iff], (by simp only [anys, upds, offs, List.set_cons_zero, List.set_cons_succ]; repeat (first | exact Wk.nil | refine Wk.same ?_ | refine Wk.any ?_)), (by simp only [anys, upds, offs, List.set_cons_zero, List.set_cons_succ]; repeat (first | exact Sk.nil _ | refine Sk.same _ ?_ | refine Sk.scr _ (by decide) ?_))⟩
      ·skip
       refine AL.n ?_
       refine AL.rf ?_
       refine AL.rf ?_
       refine AL.rf ?_
       refine AL.rf ?_
       refine AL.ro (rd_pick_f rfl rfl rfl) ?_
       refine AL.r (rd_pick_f rfl rfl rfl) ?_
       refine AL.nil ?_
       change AW _ _ _ _ _
       refine AW.cond_f rfl ?_
       refine AW.skip ?_
       refine ⟨(), by simp_all [tagD_iff], (by simp only [anys, upds, offs, List.set_cons_zero, List.set_cons_succ]; repeat (first | exact Wk.nil | refine Wk.same ?_ | refine Wk.any ?_)), (by simp only [anys, upds, offs, List.set_cons_zero, List.set_cons_succ]; repeat (first | exact Sk.nil _ | refine Sk.same _ ?_ | refine Sk.scr _ (by decide) ?_))⟩
    ·rintro u34 gs34 hJ34
     refine AW.norm (by simp only [anys, upds, offs, List.set_cons_zero, List.set_cons_succ]; rfl) (by (try simp only [anys, upds, offs, List.set_cons_zero, List.set_cons_succ]); (try rfl)) ?_
     (try dsimp only at hJ34)
     change AW _ _ _ _ _
     refine AW.seq ?_
     refine AW.seq ?_
     refine AW.region ?_
     refine AL.r (rd_faddr_bx rfl fo_47_2 rfl rfl ⟨_, _, rfl⟩) ?_
     refine AL.r (rd_load_bx rfl ag_2 rfl rfl rfl) ?_
     refine AL.r (rd_bin rfl rfl rfl (fun _ => rfl)) ?_
     refine AL.rm ?_
     refine AL.fk (d := 38) rfl (fun h38 => ?_) (fun h38 => ?_)
     ·skip
      refine AL.n ?_
      refine AL.rf ?_
      refine AL.rf ?_
      refine AL.rf ?_
      refine AL.r (rd_pick_t rfl rfl rfl) ?_
      refine AL.rm ?_
      refine AL.rf ?_
      refine AL.rf ?_
      refine AL.rf ?_
      refine AL.rf ?_
      refine AL.r (rd_pick_t rfl rfl rfl) ?_
      refine AL.nil ?_
      change AW _ _ _ _ _
      refine AW.cond_t rfl ?_
      refine AW.seq ?_
      refine AW.region ?_
      refine AL.ra ?_
      refine AL.nil ?_
      change AW _ _ _ _ _
      refine AW.ret ?_
      change ResA _ _ _ _ _
      refine res1 rfl (ResV.tmp rfl) rfl ?_
      refine congrArg (fun b => RS.s (AB b)) ?_
      simp_all [rightO] <;> (intros; omega)
     ·skip
      refine AL.n ?_
      refine AL.ro (rd_faddr_bx rfl fo_47_2 rfl rfl ⟨_, _, rfl⟩) ?_
      refine AL.ro (rd_load_bx rfl ag_2 rfl rfl rfl) ?_
      refine AL.ro (rd_bin rfl rfl rfl (fun _ => rfl)) ?_
      refine AL.r (rd_pick_f rfl rfl rfl) ?_
      refine AL.rm ?_
      refine AL.fk (d := 43) rfl (fun h43 => ?_) (fun h43 => ?_)
      ·skip
       refine AL.n ?_
       refine AL.rf ?_
       refine AL.rf ?_
       refine AL.rf ?_
       refine AL.rf ?_
       refine AL.r (rd_pick_t rfl rfl rfl) ?_
       refine AL.nil ?_
       change AW _ _ _ _ _
       refine AW.cond_t rfl ?_
       refine AW.seq ?_
       refine AW.region ?_
       refine AL.ra ?_
       refine AL.nil ?_
       change AW _ _ _ _ _
       refine AW.ret ?_
       change ResA _ _ _ _ _
       refine res1 rfl (ResV.tmp rfl) rfl ?_
       refine congrArg (fun b => RS.s (AB b)) ?_
       simp_all [rightO] <;> (intros; omega)
      ·skip
       refine AL.n ?_
       refine AL.ro (rd_faddr_bx rfl fo_47_3 rfl rfl ⟨_, _, rfl⟩) ?_
       refine AL.ro (rd_load_bx rfl ag_9 rfl rfl rfl) ?_
       refine AL.on rfl rfl rfl (AOpB.op (op_call (name_c o.cart) rfl (by kernel_rfl) rfl (none) ?_))
       rintro r rfl
       refine AL.n ?_
       refine AL.ro (rd_un rfl rfl (fun _ => rfl)) ?_
       refine AL.r (rd_pick_f rfl rfl rfl) ?_
       refine AL.nil ?_
       change AW _ _ _ _ _
       refine AW.cd rfl (fun h48 => ?_) (fun h48 => ?_)
       ·skip
        refine AW.seq ?_
        refine AW.region ?_
        refine AL.ra ?_
        refine AL.nil ?_
        change AW _ _ _ _ _
        refine AW.ret ?_
        change ResA _ _ _ _ _
        refine res1 rfl (ResV.tmp rfl) rfl ?_
        refine congrArg (fun b => RS.s (AB b)) ?_
        simp_all [rightO] <;> (intros; omega)
       ·skip
        refine AW.skip ?_
        change AW _ _ _ _ _
        refine AW.join (ι := Unit) [2, 49, 50, 51, 52, 53, 54, 55, 56] (fun u56 => []) [] (fun u56 => []) (fun u56 => (!plO o || placeB o.at_) = true) ?_ ?_
        ·skip
         refine AW.seq ?_
         refine AW.region ?_
         refine AL.r (rd_loadN_bx rfl ag_47 rfl rfl (Nat.le_of_ble_eq_true rfl) rfl) ?_
         refine AL.op rfl (AOpB.op (op_call (placed_c o) rfl (by kernel_rfl) rfl (none) ?_))
         rintro r rfl
         refine AL.n ?_
         refine AL.rm ?_
         refine AL.fk (d := 51) rfl (fun h51 => ?_) (fun h51 => ?_)
         ·skip
          refine AL.n ?_
          refine AL.ro (rd_faddr_bx rfl fo_47_6 rfl rfl ⟨_, _, rfl⟩) ?_
          refine AL.ro (rd_loadN_bx rfl ag_27 rfl rfl (Nat.le_of_ble_eq_true rfl) rfl) ?_
          refine AL.on rfl rfl rfl (AOpB.op (op_call (place_c o.at_) rfl (by kernel_rfl) rfl (none) ?_))
          rintro r rfl
          refine AL.n ?_
          refine AL.ro (rd_un rfl rfl (fun _ => rfl)) ?_
          refine AL.r (rd_pick_t rfl rfl rfl) ?_
          refine AL.nil ?_
          change AW _ _ _ _ _
          refine AW.cd rfl (fun h56 => ?_) (fun h56 => ?_)
          ·skip
           refine AW.seq ?_
           refine AW.region ?_
           refine AL.ra ?_
           refine AL.nil ?_
           change AW _ _ _ _ _
           refine AW.ret ?_
           change ResA _ _ _ _ _
           refine res1 rfl (ResV.tmp rfl) rfl ?_
           refine congrArg (fun b => RS.s (AB b)) ?_
           simp_all [rightO, plO] <;> (intros; omega)
          ·skip
           refine AW.skip ?_
           refine ⟨(), by simp_all [plO], (by simp only [anys, upds, offs, List.set_cons_zero, List.set_cons_succ]; repeat (first | exact Wk.nil | refine Wk.same ?_ | refine Wk.any ?_)), (by simp only [anys, upds, offs, List.set_cons_zero, List.set_cons_succ]; repeat (first | exact Sk.nil _ | refine Sk.same _ ?_ | refine Sk.scr _ (by decide) ?_))⟩
         ·skip
          refine AL.n ?_
          refine AL.rf ?_
          refine AL.rf ?_
          refine AL.rf ?_
          refine AL.rf ?_
          refine AL.r (rd_pick_f rfl rfl rfl) ?_
          refine AL.nil ?_
          change AW _ _ _ _ _
          refine AW.cond_f rfl ?_
          refine AW.skip ?_
          refine ⟨(), by simp_all [plO], (by simp only [anys, upds, offs, List.set_cons_zero, List.set_cons_succ]; repeat (first | exact Wk.nil | refine Wk.same ?_ | refine Wk.any ?_)), (by simp only [anys, upds, offs, List.set_cons_zero, List.set_cons_succ]; repeat (first | exact Sk.nil _ | refine Sk.same _ ?_ | refine Sk.scr _ (by decide) ?_))⟩
        ·rintro u56 gs56 hJ56
         refine AW.norm (by simp only [anys, upds, offs, List.set_cons_zero, List.set_cons_succ]; rfl) (by (try simp only [anys, upds, offs, List.set_cons_zero, List.set_cons_succ]); (try rfl)) ?_
         (try dsimp only at hJ56)
         change AW _ _ _ _ _
         refine AW.join (ι := Bool) [57, 58, 59, 60, 61, 62, 63, 64, 65, 66, 67, 68, 69, 70, 71, 72, 73, 74] (fun it => [(5, AB it)]) [] (fun it => []) (fun it => it = itO o) ?_ ?_
         ·skip
          refine AW.region ?_
          refine AL.r (rd_faddr_bx rfl fo_47_4 rfl rfl ⟨_, _, rfl⟩) ?_
          refine AL.r (rd_load_bx rfl ag_3 rfl rfl rfl) ?_
          refine AL.r (rd_bin rfl rfl rfl (fun _ => rfl)) ?_
          refine AL.rm ?_
          refine AL.fk (d := 60) rfl (fun h60 => ?_) (fun h60 => ?_)
          ·skip
           refine AL.n ?_
           refine AL.rf ?_
           refine AL.rf ?_
           refine AL.rf ?_
           refine AL.r (rd_pick_t rfl rfl rfl) ?_
           refine AL.rm ?_
           refine AL.rf ?_
           refine AL.rf ?_
           refine AL.rf ?_
           refine AL.ru ?_
           refine AL.ru ?_
           refine AL.ru ?_
           refine AL.ru ?_
           refine AL.rf ?_
           refine AL.r (rd_pick_t rfl rfl rfl) ?_
           refine AL.ra ?_
           refine AL.nil ?_
           refine ⟨true, by simp [itO, h60], (by simp only [anys, upds, offs, List.set_cons_zero, List.set_cons_succ]; repeat (first | exact Wk.nil | refine Wk.same ?_ | refine Wk.any ?_)), (by simp only [anys, upds, offs, List.set_cons_zero, List.set_cons_succ]; repeat (first | exact Sk.nil _ | refine Sk.same _ ?_ | refine Sk.scr _ (by decide) ?_))⟩
          ·skip
           refine AL.n ?_
           refine AL.ro (rd_faddr_bx rfl fo_47_4 rfl rfl ⟨_, _, rfl⟩) ?_
           refine AL.ro (rd_load_bx rfl ag_3 rfl rfl rfl) ?_
           refine AL.ro (rd_bin rfl rfl rfl (fun _ => rfl)) ?_
           refine AL.r (rd_pick_f rfl rfl rfl) ?_
           refine AL.rm ?_
           refine AL.fk (d := 65) rfl (fun h65 => ?_) (fun h65 => ?_)
           ·skip
            refine AL.n ?_
            refine AL.rf ?_
            refine AL.rf ?_
            refine AL.rf ?_
            refine AL.ru ?_
            refine AL.ru ?_
            refine AL.ru ?_
            refine AL.ru ?_
            refine AL.rf ?_
            refine AL.r (rd_pick_t rfl rfl rfl) ?_
            refine AL.ra ?_
            refine AL.nil ?_
            refine ⟨true, by simp [itO, h65], (by simp only [anys, upds, offs, List.set_cons_zero, List.set_cons_succ]; repeat (first | exact Wk.nil | refine Wk.same ?_ | refine Wk.any ?_)), (by simp only [anys, upds, offs, List.set_cons_zero, List.set_cons_succ]; repeat (first | exact Sk.nil _ | refine Sk.same _ ?_ | refine Sk.scr _ (by decide) ?_))⟩
           ·skip
            refine AL.n ?_
            refine AL.ro (rd_loadN_bx rfl ag_47 rfl rfl (Nat.le_of_ble_eq_true rfl) rfl) ?_
            refine AL.on rfl rfl rfl (AOpB.op (op_call (placed_c o) rfl (by kernel_rfl) rfl (none) ?_))
            rintro r rfl
            refine AL.n ?_
            refine AL.ro (rd_move rfl rfl) ?_
            refine AL.fk (d := 68) rfl (fun h68 => ?_) (fun h68 => ?_)
            ·skip
             refine AL.n ?_
             refine AL.ro (rd_faddr_bx rfl fo_47_6 rfl rfl ⟨_, _, rfl⟩) ?_
             refine AL.ro (rd_faddr_bx rfl fo_27_0 rfl rfl ⟨_, _, rfl⟩) ?_
             refine AL.ro (rd_load_bx rfl ag_3 rfl rfl rfl) ?_
             refine AL.ro (rd_bin rfl rfl rfl (fun _ => rfl)) ?_
             refine AL.ro (rd_pick_t rfl rfl rfl) ?_
             refine AL.r (rd_pick_f rfl rfl rfl) ?_
             refine AL.ra ?_
             refine AL.nil ?_
             refine ⟨o.at_.scope == 1, by unfold itO plO; rw [h68, decide_eq_false h60, decide_eq_false h65]; exact beq_dec _ _, (by simp only [anys, upds, offs, List.set_cons_zero, List.set_cons_succ]; repeat (first | exact Wk.nil | refine Wk.same ?_ | refine Wk.any ?_)), (by simp only [anys, upds, offs, List.set_cons_zero, List.set_cons_succ]; repeat (first | exact Sk.nil _ | refine Sk.same _ ?_ | refine Sk.scr _ (by decide) ?_))⟩
            ·skip
             refine AL.n ?_
             refine AL.rf ?_
             refine AL.rf ?_
             refine AL.rf ?_
             refine AL.rf ?_
             refine AL.ro (rd_pick_f rfl rfl rfl) ?_
             refine AL.r (rd_pick_f rfl rfl rfl) ?_
             refine AL.ra ?_
             refine AL.nil ?_
             refine ⟨false, by simp_all [itO, plO], (by simp only [anys, upds, offs, List.set_cons_zero, List.set_cons_succ]; repeat (first | exact Wk.nil | refine Wk.same ?_ | refine Wk.any ?_)), (by simp only [anys, upds, offs, List.set_cons_zero, List.set_cons_succ]; repeat (first | exact Sk.nil _ | refine Sk.same _ ?_ | refine Sk.scr _ (by decide) ?_))⟩
         ·rintro it gsR10 hJR10
          refine AW.norm (by simp only [anys, upds, offs, List.set_cons_zero, List.set_cons_succ]; rfl) (by (try simp only [anys, upds, offs, List.set_cons_zero, List.set_cons_succ]); (try rfl)) ?_
          (try dsimp only at hJR10)
          change AW _ _ _ _ _
          refine AW.join (ι := Unit) [2, 75, 76, 77, 78, 79, 80, 81] (fun u81 => []) [] (fun u81 => []) (fun u81 => (!itO o || nameB o.item) = true) ?_ ?_
          ·skip
           refine AW.seq ?_
           refine AW.region ?_
           subst hJR10
           refine AL.rm ?_
           refine AL.rm ?_
           refine AL.fk (d := 76) rfl (fun h76 => ?_) (fun h76 => ?_)
           ·skip
            refine AL.n ?_
            refine AL.ro (rd_faddr_bx rfl fo_47_5 rfl rfl ⟨_, _, rfl⟩) ?_
            refine AL.ro (rd_load_bx rfl ag_9 rfl rfl rfl) ?_
            refine AL.on rfl rfl rfl (AOpB.op (op_call (name_c o.item) rfl (by kernel_rfl) rfl (none) ?_))
            rintro r rfl
            refine AL.n ?_
            refine AL.ro (rd_un rfl rfl (fun _ => rfl)) ?_
            refine AL.r (rd_pick_t rfl rfl rfl) ?_
            refine AL.nil ?_
            change AW _ _ _ _ _
            refine AW.cd rfl (fun h81 => ?_) (fun h81 => ?_)
            ·skip
             refine AW.seq ?_
             refine AW.region ?_
             refine AL.ra ?_
             refine AL.nil ?_
             change AW _ _ _ _ _
             refine AW.ret ?_
             change ResA _ _ _ _ _
             refine res1 rfl (ResV.tmp rfl) rfl ?_
             refine congrArg (fun b => RS.s (AB b)) ?_
             simp_all [rightO] <;> (intros; omega)
            ·skip
             refine AW.skip ?_
             refine ⟨(), by simp_all, (by simp only [anys, upds, offs, List.set_cons_zero, List.set_cons_succ]; repeat (first | exact Wk.nil | refine Wk.same ?_ | refine Wk.any ?_)), (by simp only [anys, upds, offs, List.set_cons_zero, List.set_cons_succ]; repeat (first | exact Sk.nil _ | refine Sk.same _ ?_ | refine Sk.scr _ (by decide) ?_))⟩
           ·skip
            refine AL.n ?_
            refine AL.rf ?_
            refine AL.rf ?_
            refine AL.rf ?_
            refine AL.rf ?_
            refine AL.r (rd_pick_f rfl rfl rfl) ?_
            refine AL.nil ?_
            change AW _ _ _ _ _
            refine AW.cond_f rfl ?_
            refine AW.skip ?_
            refine ⟨(), by simp_all, (by simp only [anys, upds, offs, List.set_cons_zero, List.set_cons_succ]; repeat (first | exact Wk.nil | refine Wk.same ?_ | refine Wk.any ?_)), (by simp only [anys, upds, offs, List.set_cons_zero, List.set_cons_succ]; repeat (first | exact Sk.nil _ | refine Sk.same _ ?_ | refine Sk.scr _ (by decide) ?_))⟩
          ·rintro u81 gs81 hJ81
           refine AW.norm (by simp only [anys, upds, offs, List.set_cons_zero, List.set_cons_succ]; rfl) (by (try simp only [anys, upds, offs, List.set_cons_zero, List.set_cons_succ]); (try rfl)) ?_
           (try dsimp only at hJ81)
           change AW _ _ _ _ _
           refine AW.seq ?_
           refine AW.seq ?_
           refine AW.region ?_
           refine AL.r (rd_faddr_bx rfl fo_47_7 rfl rfl ⟨_, _, rfl⟩) ?_
           refine AL.r (rd_load_bx rfl ag_2 rfl rfl rfl) ?_
           refine AL.r (rd_bin rfl rfl rfl (fun _ => rfl)) ?_
           refine AL.rm ?_
           refine AL.fk (d := 85) rfl (fun h85 => ?_) (fun h85 => ?_)
           ·skip
            refine AL.n ?_
            refine AL.rf ?_
            refine AL.rf ?_
            refine AL.rf ?_
            refine AL.r (rd_pick_t rfl rfl rfl) ?_
            refine AL.nil ?_
            change AW _ _ _ _ _
            refine AW.cond_t rfl ?_
            refine AW.seq ?_
            refine AW.region ?_
            refine AL.ra ?_
            refine AL.nil ?_
            change AW _ _ _ _ _
            refine AW.ret ?_
            change ResA _ _ _ _ _
            refine res1 rfl (ResV.tmp rfl) rfl ?_
            refine congrArg (fun b => RS.s (AB b)) ?_
            simp_all [rightO] <;> (intros; omega)
           ·skip
            refine AL.n ?_
            refine AL.ro (rd_faddr_bx rfl fo_47_7 rfl rfl ⟨_, _, rfl⟩) ?_
            refine AL.ro (rd_load_bx rfl ag_2 rfl rfl rfl) ?_
            refine AL.ro (rd_bin rfl rfl rfl (fun _ => rfl)) ?_
            refine AL.r (rd_pick_f rfl rfl rfl) ?_
            refine AL.nil ?_
            change AW _ _ _ _ _
            refine AW.cd rfl (fun h89 => ?_) (fun h89 => ?_)
            ·skip
             refine AW.seq ?_
             refine AW.region ?_
             refine AL.ra ?_
             refine AL.nil ?_
             change AW _ _ _ _ _
             refine AW.ret ?_
             change ResA _ _ _ _ _
             refine res1 rfl (ResV.tmp rfl) rfl ?_
             refine congrArg (fun b => RS.s (AB b)) ?_
             simp_all [rightO] <;> (intros; omega)
            ·skip
             refine AW.skip ?_
             change AW _ _ _ _ _
             refine AW.seq ?_
             refine AW.region ?_
             refine AL.r (rd_faddr_bx rfl fo_47_9 rfl rfl ⟨_, _, rfl⟩) ?_
             refine AL.r (rd_load_bx rfl ag_9 rfl rfl rfl) ?_
             refine AL.op rfl (AOpB.op (op_call (text_c o.text) rfl (by kernel_rfl) rfl (none) ?_))
             rintro r rfl
             refine AL.n ?_
             refine AL.rm ?_
             refine AL.fk (d := 93) rfl (fun h93 => ?_) (fun h93 => ?_)
             ·skip
              refine AL.n ?_
              refine AL.ro (rd_loadN_bx rfl ag_47 rfl rfl (Nat.le_of_ble_eq_true rfl) rfl) ?_
              refine AL.on rfl rfl rfl (AOpB.op (op_call (drops_c o) rfl (by kernel_rfl) rfl (none) ?_))
              rintro r rfl
              refine AL.n ?_
              refine AL.r (rd_pick_t rfl rfl rfl) ?_
              refine AL.ra ?_
              refine AL.nil ?_
              change AW _ _ _ _ _
              refine AW.ret ?_
              change ResA _ _ _ _ _
              refine res1 rfl (ResV.tmp rfl) rfl ?_
              refine congrArg (fun b => RS.s (AB b)) ?_
              simp_all [rightO] <;> (intros; omega)
             ·skip
              refine AL.n ?_
              refine AL.rf ?_
              refine AL.rf ?_
              refine AL.r (rd_pick_f rfl rfl rfl) ?_
              refine AL.ra ?_
              refine AL.nil ?_
              change AW _ _ _ _ _
              refine AW.ret ?_
              change ResA _ _ _ _ _
              refine res1 rfl (ResV.tmp rfl) rfl ?_
              refine congrArg (fun b => RS.s (AB b)) ?_
              simp_all [rightO] <;> (intros; omega)
end Go.Proofs.Ytfjnkhanndkpfaa
