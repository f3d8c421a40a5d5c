/- Lenses: their parts, walked over abstract states. -/
import Derived.Test.YtdgcbhihmnhnaaaLenC
namespace Go.Proofs.Ytdgcbhihmnhnaaa
set_option linter.unusedSimpArgs false
set_option linter.unusedVariables false
set_option maxRecDepth 100000
open Go.RowKit

def zL : LensD := ⟨0, ⟨0, [], []⟩, [], [], 0, ⟨⟨0, [], []⟩, 0, [], [], 0⟩, [], []⟩
def partsL (x : LensD) : LensD × Bool :=
  if x.kind = 1 ∨ x.kind = 5 then ({ zL with kind := x.kind, at_ := x.at_, name := x.name }, true)
  else if x.kind = 2 ∨ x.kind = 3 then ({ zL with kind := x.kind, field := x.field }, true)
  else if x.kind = 4 then ({ zL with kind := x.kind, at_ := x.at_ }, true)
  else if x.kind = 6 ∨ x.kind = 9 then ({ zL with kind := x.kind, at_ := x.at_, name := x.name, other := x.other, factor := x.factor }, true)
  else if x.kind = 7 ∨ x.kind = 10 then ({ zL with kind := x.kind, at_ := x.at_, other := x.other }, true)
  else if x.kind = 8 then ({ zL with kind := x.kind, at_ := x.at_, name := x.name, other := x.other, forth := x.forth, back := x.back }, true)
  else (zL, false)
set_option maxHeartbeats 2000000 in
theorem lparts_c (x : LensD) : AC Try.prog 100 [x.av] (fun r => r = .s (.tu [(partsL x).1.av, AB (partsL x).2])) := by
  change AC _ _ [.ag [AI x.kind, AI x.at_.scope, AS x.at_.group, AS x.at_.name, AS x.name, AS x.other, AI x.factor, AI x.field.at_.scope, AS x.field.at_.group, AS x.field.at_.name, AI x.field.kind, AS x.field.dflt, .sl (csS x.field.cases), AI x.field.worth, .sl (x.forth.map PairD.cs), .sl (x.back.map PairD.cs)]] _
  refine AC.of' 72 3 Try.func100 rfl ?_
  change AW _ _ _ _ [TK.mk 0 .off, TK.mk 0 .off, TK.mk 0 .off]
  refine AW.seq ?_
  refine AW.region ?_
  refine AL.op rfl (AOpB.op (op_box 0 rfl rfl rfl rfl rfl ?_))
  refine AL.n ?_
  refine AL.op rfl (AOpB.op (op_alloc 1 rfl ze_50 rfl ?_))
  refine AL.n ?_
  refine AL.ra ?_
  refine AL.nil ?_
  change AW _ _ _ _ _
  refine AW.seq ?_
  refine AW.region ?_
  refine AL.r (rd_faddr_bx rfl fo_50_0 rfl rfl ⟨_, _, rfl⟩) ?_
  refine AL.r (rd_load_bx rfl ag_3 rfl rfl rfl) ?_
  refine AL.r (rd_build rfl pl_50 ze_50 rfl rfl) ?_
  refine AL.op rfl (AOpB.op (op_alloc 2 rfl ze_50 rfl ?_))
  refine AL.n ?_
  refine AL.op rfl (op_store_ rfl rfl rfl rfl rfl sz_50 ?_)
  refine AL.b ?_
  refine AL.nil ?_
  change AW _ _ _ _ _
  refine AW.seq ?_
  refine AW.seq ?_
  refine AW.region ?_
  refine AL.b ?_
  refine AL.r (rd_faddr_bx rfl fo_50_0 rfl rfl ⟨_, _, rfl⟩) ?_
  refine AL.r (rd_load_bx rfl ag_3 rfl rfl rfl) ?_
  refine AL.nil ?_
  change AW _ _ _ _ _
  refine AW.block ?_
  refine AW.seq ?_
  refine AW.seq ?_
  refine AW.region ?_
  refine AL.r (rd_bin rfl rfl rfl (fun _ => rfl)) ?_
  refine AL.ra ?_
  refine AL.nil ?_
  change AW _ _ _ _ _
  refine AW.cd rfl (fun h11 => ?_) (fun h11 => ?_)
  ·skip
   refine AW.skip ?_
   change AW _ _ _ _ _
   refine AW.cd rfl (fun h11 => ?_) (fun h11 => ?_)
   ·skip
    refine AW.drawX 2 (by kernel_rfl) ?_
    refine ADX.r 0 rfl (rdX_faddr_bx rfl fo_50_1 rfl rfl ⟨_, _, rfl⟩) rfl ?_
    refine ADX.r 1 rfl (rdX_loadN_bx rfl ag_44 rfl rfl (Nat.le_of_ble_eq_true rfl) rfl) rfl ?_
    refine ADX.r 2 rfl (rdX_faddr_bx rfl fo_50_2 rfl rfl ⟨_, _, rfl⟩) rfl ?_
    refine ADX.r 3 rfl (rdX_load_bx rfl ag_9 rfl rfl rfl) rfl ?_
    refine ADX.r 4 rfl (rdX_faddr_bx rfl fo_50_1 rfl rfl ⟨_, _, rfl⟩) rfl ?_
    refine ADX.stor 5 rfl (by kernel_rfl) rfl rfl rfl rfl rfl rfl sz_44 ?_
    refine ADX.n ?_
    refine ADX.r 6 rfl (rdX_faddr_bx rfl fo_50_2 rfl rfl ⟨_, _, rfl⟩) rfl ?_
    refine ADX.stor 7 rfl (by kernel_rfl) rfl rfl rfl rfl rfl rfl sz_9 ?_
    refine ADX.n ?_
    refine ADX.done (by kernel_rfl) ?_
    change AW _ _ _ _ _
    refine AW.seq ?_
    refine AW.region ?_
    refine AL.r (rd_loadN_bx rfl ag_50 rfl rfl (Nat.le_of_ble_eq_true rfl) rfl) ?_
    refine AL.op rfl (op_store_ rfl rfl rfl rfl rfl sz_50 ?_)
    refine AL.b ?_
    refine AL.ra ?_
    refine AL.nil ?_
    change AW _ _ _ _ _
    refine AW.ret ?_
    change ResA _ _ _ _ _
    refine res2 rfl (ResV.cells rfl rfl ag_50 (Nat.le_of_ble_eq_true rfl) rfl) rfl (ResV.tmp rfl) rfl ?_
    simp_all [partsL, zL, LensD.cs, csS]
   ·skip
    refine AW.seq ?_
    refine AW.seq ?_
    refine AW.region ?_
    refine AL.r (rd_bin rfl rfl rfl (fun _ => rfl)) ?_
    refine AL.ra ?_
    refine AL.nil ?_
    change AW _ _ _ _ _
    refine AW.cd rfl (fun h20 => ?_) (fun h20 => ?_)
    ·skip
     refine AW.skip ?_
     change AW _ _ _ _ _
     refine AW.cd rfl (fun h20 => ?_) (fun h20 => ?_)
     ·skip
      refine AW.region ?_
      refine AL.r (rd_faddr_bx rfl fo_50_5 rfl rfl ⟨_, _, rfl⟩) ?_
      refine AL.r (rd_loadN_bx rfl ag_47 rfl rfl (Nat.le_of_ble_eq_true rfl) rfl) ?_
      refine AL.r (rd_faddr_bx rfl fo_50_5 rfl rfl ⟨_, _, rfl⟩) ?_
      refine AL.op rfl (op_store_ rfl rfl rfl rfl rfl sz_47 ?_)
      refine AL.b ?_
      refine AL.nil ?_
      change AW _ _ _ _ _
      refine AW.seq ?_
      refine AW.region ?_
      refine AL.r (rd_loadN_bx rfl ag_50 rfl rfl (Nat.le_of_ble_eq_true rfl) rfl) ?_
      refine AL.op rfl (op_store_ rfl rfl rfl rfl rfl sz_50 ?_)
      refine AL.b ?_
      refine AL.ra ?_
      refine AL.nil ?_
      change AW _ _ _ _ _
      refine AW.ret ?_
      change ResA _ _ _ _ _
      refine res2 rfl (ResV.cells rfl rfl ag_50 (Nat.le_of_ble_eq_true rfl) rfl) rfl (ResV.tmp rfl) rfl ?_
      simp_all [partsL, zL, LensD.cs, csS]
     ·skip
      refine AW.seq ?_
      refine AW.region ?_
      refine AL.r (rd_bin rfl rfl rfl (fun _ => rfl)) ?_
      refine AL.ra ?_
      refine AL.nil ?_
      change AW _ _ _ _ _
      refine AW.cd rfl (fun h26 => ?_) (fun h26 => ?_)
      ·skip
       refine AW.region ?_
       refine AL.r (rd_faddr_bx rfl fo_50_1 rfl rfl ⟨_, _, rfl⟩) ?_
       refine AL.r (rd_loadN_bx rfl ag_44 rfl rfl (Nat.le_of_ble_eq_true rfl) rfl) ?_
       refine AL.r (rd_faddr_bx rfl fo_50_1 rfl rfl ⟨_, _, rfl⟩) ?_
       refine AL.op rfl (op_store_ rfl rfl rfl rfl rfl sz_44 ?_)
       refine AL.b ?_
       refine AL.nil ?_
       change AW _ _ _ _ _
       refine AW.seq ?_
       refine AW.region ?_
       refine AL.r (rd_loadN_bx rfl ag_50 rfl rfl (Nat.le_of_ble_eq_true rfl) rfl) ?_
       refine AL.op rfl (op_store_ rfl rfl rfl rfl rfl sz_50 ?_)
       refine AL.b ?_
       refine AL.ra ?_
       refine AL.nil ?_
       change AW _ _ _ _ _
       refine AW.ret ?_
       change ResA _ _ _ _ _
       refine res2 rfl (ResV.cells rfl rfl ag_50 (Nat.le_of_ble_eq_true rfl) rfl) rfl (ResV.tmp rfl) rfl ?_
       simp_all [partsL, zL, LensD.cs, csS]
      ·skip
       refine AW.seq ?_
       refine AW.seq ?_
       refine AW.region ?_
       refine AL.r (rd_bin rfl rfl rfl (fun _ => rfl)) ?_
       refine AL.ra ?_
       refine AL.nil ?_
       change AW _ _ _ _ _
       refine AW.cd rfl (fun h31 => ?_) (fun h31 => ?_)
       ·skip
        refine AW.skip ?_
        change AW _ _ _ _ _
        refine AW.cd rfl (fun h31 => ?_) (fun h31 => ?_)
        ·skip
         refine AW.drawX 2 (by kernel_rfl) ?_
         refine ADX.r 0 rfl (rdX_faddr_bx rfl fo_50_1 rfl rfl ⟨_, _, rfl⟩) rfl ?_
         refine ADX.r 1 rfl (rdX_loadN_bx rfl ag_44 rfl rfl (Nat.le_of_ble_eq_true rfl) rfl) rfl ?_
         refine ADX.r 2 rfl (rdX_faddr_bx rfl fo_50_2 rfl rfl ⟨_, _, rfl⟩) rfl ?_
         refine ADX.r 3 rfl (rdX_load_bx rfl ag_9 rfl rfl rfl) rfl ?_
         refine ADX.r 4 rfl (rdX_faddr_bx rfl fo_50_3 rfl rfl ⟨_, _, rfl⟩) rfl ?_
         refine ADX.r 5 rfl (rdX_load_bx rfl ag_9 rfl rfl rfl) rfl ?_
         refine ADX.r 6 rfl (rdX_faddr_bx rfl fo_50_4 rfl rfl ⟨_, _, rfl⟩) rfl ?_
         refine ADX.r 7 rfl (rdX_load_bx rfl ag_2 rfl rfl rfl) rfl ?_
         refine ADX.r 8 rfl (rdX_faddr_bx rfl fo_50_1 rfl rfl ⟨_, _, rfl⟩) rfl ?_
         refine ADX.stor 9 rfl (by kernel_rfl) rfl rfl rfl rfl rfl rfl sz_44 ?_
         refine ADX.n ?_
         refine ADX.r 10 rfl (rdX_faddr_bx rfl fo_50_2 rfl rfl ⟨_, _, rfl⟩) rfl ?_
         refine ADX.stor 11 rfl (by kernel_rfl) rfl rfl rfl rfl rfl rfl sz_9 ?_
         refine ADX.n ?_
         refine ADX.r 12 rfl (rdX_faddr_bx rfl fo_50_3 rfl rfl ⟨_, _, rfl⟩) rfl ?_
         refine ADX.stor 13 rfl (by kernel_rfl) rfl rfl rfl rfl rfl rfl sz_9 ?_
         refine ADX.n ?_
         refine ADX.r 14 rfl (rdX_faddr_bx rfl fo_50_4 rfl rfl ⟨_, _, rfl⟩) rfl ?_
         refine ADX.stor 15 rfl (by kernel_rfl) rfl rfl rfl rfl rfl rfl sz_2 ?_
         refine ADX.n ?_
         refine ADX.done (by kernel_rfl) ?_
         change AW _ _ _ _ _
         refine AW.seq ?_
         refine AW.region ?_
         refine AL.r (rd_loadN_bx rfl ag_50 rfl rfl (Nat.le_of_ble_eq_true rfl) rfl) ?_
         refine AL.op rfl (op_store_ rfl rfl rfl rfl rfl sz_50 ?_)
         refine AL.b ?_
         refine AL.ra ?_
         refine AL.nil ?_
         change AW _ _ _ _ _
         refine AW.ret ?_
         change ResA _ _ _ _ _
         refine res2 rfl (ResV.cells rfl rfl ag_50 (Nat.le_of_ble_eq_true rfl) rfl) rfl (ResV.tmp rfl) rfl ?_
         simp_all [partsL, zL, LensD.cs, csS]
        ·skip
         refine AW.seq ?_
         refine AW.seq ?_
         refine AW.region ?_
         refine AL.r (rd_bin rfl rfl rfl (fun _ => rfl)) ?_
         refine AL.ra ?_
         refine AL.nil ?_
         change AW _ _ _ _ _
         refine AW.cd rfl (fun h46 => ?_) (fun h46 => ?_)
         ·skip
          refine AW.skip ?_
          change AW _ _ _ _ _
          refine AW.cd rfl (fun h46 => ?_) (fun h46 => ?_)
          ·skip
           refine AW.drawX 2 (by kernel_rfl) ?_
           refine ADX.r 0 rfl (rdX_faddr_bx rfl fo_50_1 rfl rfl ⟨_, _, rfl⟩) rfl ?_
           refine ADX.r 1 rfl (rdX_loadN_bx rfl ag_44 rfl rfl (Nat.le_of_ble_eq_true rfl) rfl) rfl ?_
           refine ADX.r 2 rfl (rdX_faddr_bx rfl fo_50_3 rfl rfl ⟨_, _, rfl⟩) rfl ?_
           refine ADX.r 3 rfl (rdX_load_bx rfl ag_9 rfl rfl rfl) rfl ?_
           refine ADX.r 4 rfl (rdX_faddr_bx rfl fo_50_1 rfl rfl ⟨_, _, rfl⟩) rfl ?_
           refine ADX.stor 5 rfl (by kernel_rfl) rfl rfl rfl rfl rfl rfl sz_44 ?_
           refine ADX.n ?_
           refine ADX.r 6 rfl (rdX_faddr_bx rfl fo_50_3 rfl rfl ⟨_, _, rfl⟩) rfl ?_
           refine ADX.stor 7 rfl (by kernel_rfl) rfl rfl rfl rfl rfl rfl sz_9 ?_
           refine ADX.n ?_
           refine ADX.done (by kernel_rfl) ?_
           change AW _ _ _ _ _
           refine AW.seq ?_
           refine AW.region ?_
           refine AL.r (rd_loadN_bx rfl ag_50 rfl rfl (Nat.le_of_ble_eq_true rfl) rfl) ?_
           refine AL.op rfl (op_store_ rfl rfl rfl rfl rfl sz_50 ?_)
           refine AL.b ?_
           refine AL.ra ?_
           refine AL.nil ?_
           change AW _ _ _ _ _
           refine AW.ret ?_
           change ResA _ _ _ _ _
           refine res2 rfl (ResV.cells rfl rfl ag_50 (Nat.le_of_ble_eq_true rfl) rfl) rfl (ResV.tmp rfl) rfl ?_
           simp_all [partsL, zL, LensD.cs, csS]
          ·skip
           refine AW.seq ?_
           refine AW.region ?_
           refine AL.r (rd_bin rfl rfl rfl (fun _ => rfl)) ?_
           refine AL.ra ?_
           refine AL.nil ?_
           change AW _ _ _ _ _
           refine AW.cd rfl (fun h55 => ?_) (fun h55 => ?_)
           ·skip
            refine AW.seq ?_
            refine AW.drawX 2 (by kernel_rfl) ?_
            refine ADX.r 0 rfl (rdX_faddr_bx rfl fo_50_1 rfl rfl ⟨_, _, rfl⟩) rfl ?_
            refine ADX.r 1 rfl (rdX_loadN_bx rfl ag_44 rfl rfl (Nat.le_of_ble_eq_true rfl) rfl) rfl ?_
            refine ADX.r 2 rfl (rdX_faddr_bx rfl fo_50_2 rfl rfl ⟨_, _, rfl⟩) rfl ?_
            refine ADX.r 3 rfl (rdX_load_bx rfl ag_9 rfl rfl rfl) rfl ?_
            refine ADX.r 4 rfl (rdX_faddr_bx rfl fo_50_3 rfl rfl ⟨_, _, rfl⟩) rfl ?_
            refine ADX.r 5 rfl (rdX_load_bx rfl ag_9 rfl rfl rfl) rfl ?_
            refine ADX.r 6 rfl (rdX_faddr_bx rfl fo_50_1 rfl rfl ⟨_, _, rfl⟩) rfl ?_
            refine ADX.stor 7 rfl (by kernel_rfl) rfl rfl rfl rfl rfl rfl sz_44 ?_
            refine ADX.n ?_
            refine ADX.r 8 rfl (rdX_faddr_bx rfl fo_50_2 rfl rfl ⟨_, _, rfl⟩) rfl ?_
            refine ADX.stor 9 rfl (by kernel_rfl) rfl rfl rfl rfl rfl rfl sz_9 ?_
            refine ADX.n ?_
            refine ADX.r 10 rfl (rdX_faddr_bx rfl fo_50_3 rfl rfl ⟨_, _, rfl⟩) rfl ?_
            refine ADX.stor 11 rfl (by kernel_rfl) rfl rfl rfl rfl rfl rfl sz_9 ?_
            refine ADX.n ?_
            refine ADX.done (by kernel_rfl) ?_
            change AW _ _ _ _ _
            refine AW.drawX 2 (by kernel_rfl) ?_
            refine ADX.r 0 rfl (rdX_faddr_bx rfl fo_50_6 rfl rfl ⟨_, _, rfl⟩) rfl ?_
            refine ADX.r 1 rfl (rdX_load_bx rfl ag_48 rfl rfl rfl) rfl ?_
            refine ADX.r 2 rfl (rdX_faddr_bx rfl fo_50_7 rfl rfl ⟨_, _, rfl⟩) rfl ?_
            refine ADX.r 3 rfl (rdX_load_bx rfl ag_48 rfl rfl rfl) rfl ?_
            refine ADX.r 4 rfl (rdX_faddr_bx rfl fo_50_6 rfl rfl ⟨_, _, rfl⟩) rfl ?_
            refine ADX.stor 5 rfl (by kernel_rfl) rfl rfl rfl rfl rfl rfl sz_48 ?_
            refine ADX.n ?_
            refine ADX.r 6 rfl (rdX_faddr_bx rfl fo_50_7 rfl rfl ⟨_, _, rfl⟩) rfl ?_
            refine ADX.stor 7 rfl (by kernel_rfl) rfl rfl rfl rfl rfl rfl sz_48 ?_
            refine ADX.n ?_
            refine ADX.done (by kernel_rfl) ?_
            change AW _ _ _ _ _
            refine AW.seq ?_
            refine AW.region ?_
            refine AL.r (rd_loadN_bx rfl ag_50 rfl rfl (Nat.le_of_ble_eq_true rfl) rfl) ?_
            refine AL.op rfl (op_store_ rfl rfl rfl rfl rfl sz_50 ?_)
            refine AL.b ?_
            refine AL.ra ?_
            refine AL.nil ?_
            change AW _ _ _ _ _
            refine AW.ret ?_
            change ResA _ _ _ _ _
            refine res2 rfl (ResV.cells rfl rfl ag_50 (Nat.le_of_ble_eq_true rfl) rfl) rfl (ResV.tmp rfl) rfl ?_
            simp_all [partsL, zL, LensD.cs, csS]
           ·skip
            refine AW.seq ?_
            refine AW.region ?_
            refine AL.r (rd_build rfl pl_50 ze_50 rfl rfl) ?_
            refine AL.op rfl (op_store_ rfl rfl rfl rfl rfl sz_50 ?_)
            refine AL.b ?_
            refine AL.ra ?_
            refine AL.nil ?_
            change AW _ _ _ _ _
            refine AW.ret ?_
            change ResA _ _ _ _ _
            refine res2 rfl (ResV.cells rfl rfl ag_50 (Nat.le_of_ble_eq_true rfl) rfl) rfl (ResV.tmp rfl) rfl ?_
            simp_all [partsL, zL, LensD.cs, csS]
         ·skip
          refine AW.region ?_
          refine AL.r (rd_bin rfl rfl rfl (fun _ => rfl)) ?_
          refine AL.ra ?_
          refine AL.nil ?_
          change AW _ _ _ _ _
          refine AW.cd rfl (fun h46 => ?_) (fun h46 => ?_)
          ·skip
           refine AW.drawX 2 (by kernel_rfl) ?_
           refine ADX.r 0 rfl (rdX_faddr_bx rfl fo_50_1 rfl rfl ⟨_, _, rfl⟩) rfl ?_
           refine ADX.r 1 rfl (rdX_loadN_bx rfl ag_44 rfl rfl (Nat.le_of_ble_eq_true rfl) rfl) rfl ?_
           refine ADX.r 2 rfl (rdX_faddr_bx rfl fo_50_3 rfl rfl ⟨_, _, rfl⟩) rfl ?_
           refine ADX.r 3 rfl (rdX_load_bx rfl ag_9 rfl rfl rfl) rfl ?_
           refine ADX.r 4 rfl (rdX_faddr_bx rfl fo_50_1 rfl rfl ⟨_, _, rfl⟩) rfl ?_
           refine ADX.stor 5 rfl (by kernel_rfl) rfl rfl rfl rfl rfl rfl sz_44 ?_
           refine ADX.n ?_
           refine ADX.r 6 rfl (rdX_faddr_bx rfl fo_50_3 rfl rfl ⟨_, _, rfl⟩) rfl ?_
           refine ADX.stor 7 rfl (by kernel_rfl) rfl rfl rfl rfl rfl rfl sz_9 ?_
           refine ADX.n ?_
           refine ADX.done (by kernel_rfl) ?_
           change AW _ _ _ _ _
           refine AW.seq ?_
           refine AW.region ?_
           refine AL.r (rd_loadN_bx rfl ag_50 rfl rfl (Nat.le_of_ble_eq_true rfl) rfl) ?_
           refine AL.op rfl (op_store_ rfl rfl rfl rfl rfl sz_50 ?_)
           refine AL.b ?_
           refine AL.ra ?_
           refine AL.nil ?_
           change AW _ _ _ _ _
           refine AW.ret ?_
           change ResA _ _ _ _ _
           refine res2 rfl (ResV.cells rfl rfl ag_50 (Nat.le_of_ble_eq_true rfl) rfl) rfl (ResV.tmp rfl) rfl ?_
           simp_all [partsL, zL, LensD.cs, csS]
          ·skip
           refine AW.seq ?_
           refine AW.region ?_
           refine AL.r (rd_bin rfl rfl rfl (fun _ => rfl)) ?_
           refine AL.ra ?_
           refine AL.nil ?_
           change AW _ _ _ _ _
           refine AW.cd rfl (fun h55 => ?_) (fun h55 => ?_)
           ·skip
            refine AW.seq ?_
            refine AW.drawX 2 (by kernel_rfl) ?_
            refine ADX.r 0 rfl (rdX_faddr_bx rfl fo_50_1 rfl rfl ⟨_, _, rfl⟩) rfl ?_
            refine ADX.r 1 rfl (rdX_loadN_bx rfl ag_44 rfl rfl (Nat.le_of_ble_eq_true rfl) rfl) rfl ?_
            refine ADX.r 2 rfl (rdX_faddr_bx rfl fo_50_2 rfl rfl ⟨_, _, rfl⟩) rfl ?_
            refine ADX.r 3 rfl (rdX_load_bx rfl ag_9 rfl rfl rfl) rfl ?_
            refine ADX.r 4 rfl (rdX_faddr_bx rfl fo_50_3 rfl rfl ⟨_, _, rfl⟩) rfl ?_
            refine ADX.r 5 rfl (rdX_load_bx rfl ag_9 rfl rfl rfl) rfl ?_
            refine ADX.r 6 rfl (rdX_faddr_bx rfl fo_50_1 rfl rfl ⟨_, _, rfl⟩) rfl ?_
            refine ADX.stor 7 rfl (by kernel_rfl) rfl rfl rfl rfl rfl rfl sz_44 ?_
            refine ADX.n ?_
            refine ADX.r 8 rfl (rdX_faddr_bx rfl fo_50_2 rfl rfl ⟨_, _, rfl⟩) rfl ?_
            refine ADX.stor 9 rfl (by kernel_rfl) rfl rfl rfl rfl rfl rfl sz_9 ?_
            refine ADX.n ?_
            refine ADX.r 10 rfl (rdX_faddr_bx rfl fo_50_3 rfl rfl ⟨_, _, rfl⟩) rfl ?_
            refine ADX.stor 11 rfl (by kernel_rfl) rfl rfl rfl rfl rfl rfl sz_9 ?_
            refine ADX.n ?_
            refine ADX.done (by kernel_rfl) ?_
            change AW _ _ _ _ _
            refine AW.drawX 2 (by kernel_rfl) ?_
            refine ADX.r 0 rfl (rdX_faddr_bx rfl fo_50_6 rfl rfl ⟨_, _, rfl⟩) rfl ?_
            refine ADX.r 1 rfl (rdX_load_bx rfl ag_48 rfl rfl rfl) rfl ?_
            refine ADX.r 2 rfl (rdX_faddr_bx rfl fo_50_7 rfl rfl ⟨_, _, rfl⟩) rfl ?_
            refine ADX.r 3 rfl (rdX_load_bx rfl ag_48 rfl rfl rfl) rfl ?_
            refine ADX.r 4 rfl (rdX_faddr_bx rfl fo_50_6 rfl rfl ⟨_, _, rfl⟩) rfl ?_
            refine ADX.stor 5 rfl (by kernel_rfl) rfl rfl rfl rfl rfl rfl sz_48 ?_
            refine ADX.n ?_
            refine ADX.r 6 rfl (rdX_faddr_bx rfl fo_50_7 rfl rfl ⟨_, _, rfl⟩) rfl ?_
            refine ADX.stor 7 rfl (by kernel_rfl) rfl rfl rfl rfl rfl rfl sz_48 ?_
            refine ADX.n ?_
            refine ADX.done (by kernel_rfl) ?_
            change AW _ _ _ _ _
            refine AW.seq ?_
            refine AW.region ?_
            refine AL.r (rd_loadN_bx rfl ag_50 rfl rfl (Nat.le_of_ble_eq_true rfl) rfl) ?_
            refine AL.op rfl (op_store_ rfl rfl rfl rfl rfl sz_50 ?_)
            refine AL.b ?_
            refine AL.ra ?_
            refine AL.nil ?_
            change AW _ _ _ _ _
            refine AW.ret ?_
            change ResA _ _ _ _ _
            refine res2 rfl (ResV.cells rfl rfl ag_50 (Nat.le_of_ble_eq_true rfl) rfl) rfl (ResV.tmp rfl) rfl ?_
            simp_all [partsL, zL, LensD.cs, csS]
           ·skip
            refine AW.seq ?_
            refine AW.region ?_
            refine AL.r (rd_build rfl pl_50 ze_50 rfl rfl) ?_
            refine AL.op rfl (op_store_ rfl rfl rfl rfl rfl sz_50 ?_)
            refine AL.b ?_
            refine AL.ra ?_
            refine AL.nil ?_
            change AW _ _ _ _ _
            refine AW.ret ?_
            change ResA _ _ _ _ _
            refine res2 rfl (ResV.cells rfl rfl ag_50 (Nat.le_of_ble_eq_true rfl) rfl) rfl (ResV.tmp rfl) rfl ?_
            simp_all [partsL, zL, LensD.cs, csS]
       ·skip
        refine AW.region ?_
        refine AL.r (rd_bin rfl rfl rfl (fun _ => rfl)) ?_
        refine AL.ra ?_
        refine AL.nil ?_
        change AW _ _ _ _ _
        refine AW.cd rfl (fun h31 => ?_) (fun h31 => ?_)
        ·skip
         refine AW.drawX 2 (by kernel_rfl) ?_
         refine ADX.r 0 rfl (rdX_faddr_bx rfl fo_50_1 rfl rfl ⟨_, _, rfl⟩) rfl ?_
         refine ADX.r 1 rfl (rdX_loadN_bx rfl ag_44 rfl rfl (Nat.le_of_ble_eq_true rfl) rfl) rfl ?_
         refine ADX.r 2 rfl (rdX_faddr_bx rfl fo_50_2 rfl rfl ⟨_, _, rfl⟩) rfl ?_
         refine ADX.r 3 rfl (rdX_load_bx rfl ag_9 rfl rfl rfl) rfl ?_
         refine ADX.r 4 rfl (rdX_faddr_bx rfl fo_50_3 rfl rfl ⟨_, _, rfl⟩) rfl ?_
         refine ADX.r 5 rfl (rdX_load_bx rfl ag_9 rfl rfl rfl) rfl ?_
         refine ADX.r 6 rfl (rdX_faddr_bx rfl fo_50_4 rfl rfl ⟨_, _, rfl⟩) rfl ?_
         refine ADX.r 7 rfl (rdX_load_bx rfl ag_2 rfl rfl rfl) rfl ?_
         refine ADX.r 8 rfl (rdX_faddr_bx rfl fo_50_1 rfl rfl ⟨_, _, rfl⟩) rfl ?_
         refine ADX.stor 9 rfl (by kernel_rfl) rfl rfl rfl rfl rfl rfl sz_44 ?_
         refine ADX.n ?_
         refine ADX.r 10 rfl (rdX_faddr_bx rfl fo_50_2 rfl rfl ⟨_, _, rfl⟩) rfl ?_
         refine ADX.stor 11 rfl (by kernel_rfl) rfl rfl rfl rfl rfl rfl sz_9 ?_
         refine ADX.n ?_
         refine ADX.r 12 rfl (rdX_faddr_bx rfl fo_50_3 rfl rfl ⟨_, _, rfl⟩) rfl ?_
         refine ADX.stor 13 rfl (by kernel_rfl) rfl rfl rfl rfl rfl rfl sz_9 ?_
         refine ADX.n ?_
         refine ADX.r 14 rfl (rdX_faddr_bx rfl fo_50_4 rfl rfl ⟨_, _, rfl⟩) rfl ?_
         refine ADX.stor 15 rfl (by kernel_rfl) rfl rfl rfl rfl rfl rfl sz_2 ?_
         refine ADX.n ?_
         refine ADX.done (by kernel_rfl) ?_
         change AW _ _ _ _ _
         refine AW.seq ?_
         refine AW.region ?_
         refine AL.r (rd_loadN_bx rfl ag_50 rfl rfl (Nat.le_of_ble_eq_true rfl) rfl) ?_
         refine AL.op rfl (op_store_ rfl rfl rfl rfl rfl sz_50 ?_)
         refine AL.b ?_
         refine AL.ra ?_
         refine AL.nil ?_
         change AW _ _ _ _ _
         refine AW.ret ?_
         change ResA _ _ _ _ _
         refine res2 rfl (ResV.cells rfl rfl ag_50 (Nat.le_of_ble_eq_true rfl) rfl) rfl (ResV.tmp rfl) rfl ?_
         simp_all [partsL, zL, LensD.cs, csS]
        ·skip
         refine AW.seq ?_
         refine AW.seq ?_
         refine AW.region ?_
         refine AL.r (rd_bin rfl rfl rfl (fun _ => rfl)) ?_
         refine AL.ra ?_
         refine AL.nil ?_
         change AW _ _ _ _ _
         refine AW.cd rfl (fun h46 => ?_) (fun h46 => ?_)
         ·skip
          refine AW.skip ?_
          change AW _ _ _ _ _
          refine AW.cd rfl (fun h46 => ?_) (fun h46 => ?_)
          ·skip
           refine AW.drawX 2 (by kernel_rfl) ?_
           refine ADX.r 0 rfl (rdX_faddr_bx rfl fo_50_1 rfl rfl ⟨_, _, rfl⟩) rfl ?_
           refine ADX.r 1 rfl (rdX_loadN_bx rfl ag_44 rfl rfl (Nat.le_of_ble_eq_true rfl) rfl) rfl ?_
           refine ADX.r 2 rfl (rdX_faddr_bx rfl fo_50_3 rfl rfl ⟨_, _, rfl⟩) rfl ?_
           refine ADX.r 3 rfl (rdX_load_bx rfl ag_9 rfl rfl rfl) rfl ?_
           refine ADX.r 4 rfl (rdX_faddr_bx rfl fo_50_1 rfl rfl ⟨_, _, rfl⟩) rfl ?_
           refine ADX.stor 5 rfl (by kernel_rfl) rfl rfl rfl rfl rfl rfl sz_44 ?_
           refine ADX.n ?_
           refine ADX.r 6 rfl (rdX_faddr_bx rfl fo_50_3 rfl rfl ⟨_, _, rfl⟩) rfl ?_
           refine ADX.stor 7 rfl (by kernel_rfl) rfl rfl rfl rfl rfl rfl sz_9 ?_
           refine ADX.n ?_
           refine ADX.done (by kernel_rfl) ?_
           change AW _ _ _ _ _
           refine AW.seq ?_
           refine AW.region ?_
           refine AL.r (rd_loadN_bx rfl ag_50 rfl rfl (Nat.le_of_ble_eq_true rfl) rfl) ?_
           refine AL.op rfl (op_store_ rfl rfl rfl rfl rfl sz_50 ?_)
           refine AL.b ?_
           refine AL.ra ?_
           refine AL.nil ?_
           change AW _ _ _ _ _
           refine AW.ret ?_
           change ResA _ _ _ _ _
           refine res2 rfl (ResV.cells rfl rfl ag_50 (Nat.le_of_ble_eq_true rfl) rfl) rfl (ResV.tmp rfl) rfl ?_
           simp_all [partsL, zL, LensD.cs, csS]
          ·skip
           refine AW.seq ?_
           refine AW.region ?_
           refine AL.r (rd_bin rfl rfl rfl (fun _ => rfl)) ?_
           refine AL.ra ?_
           refine AL.nil ?_
           change AW _ _ _ _ _
           refine AW.cd rfl (fun h55 => ?_) (fun h55 => ?_)
           ·skip
            refine AW.seq ?_
            refine AW.drawX 2 (by kernel_rfl) ?_
            refine ADX.r 0 rfl (rdX_faddr_bx rfl fo_50_1 rfl rfl ⟨_, _, rfl⟩) rfl ?_
            refine ADX.r 1 rfl (rdX_loadN_bx rfl ag_44 rfl rfl (Nat.le_of_ble_eq_true rfl) rfl) rfl ?_
            refine ADX.r 2 rfl (rdX_faddr_bx rfl fo_50_2 rfl rfl ⟨_, _, rfl⟩) rfl ?_
            refine ADX.r 3 rfl (rdX_load_bx rfl ag_9 rfl rfl rfl) rfl ?_
            refine ADX.r 4 rfl (rdX_faddr_bx rfl fo_50_3 rfl rfl ⟨_, _, rfl⟩) rfl ?_
            refine ADX.r 5 rfl (rdX_load_bx rfl ag_9 rfl rfl rfl) rfl ?_
            refine ADX.r 6 rfl (rdX_faddr_bx rfl fo_50_1 rfl rfl ⟨_, _, rfl⟩) rfl ?_
            refine ADX.stor 7 rfl (by kernel_rfl) rfl rfl rfl rfl rfl rfl sz_44 ?_
            refine ADX.n ?_
            refine ADX.r 8 rfl (rdX_faddr_bx rfl fo_50_2 rfl rfl ⟨_, _, rfl⟩) rfl ?_
            refine ADX.stor 9 rfl (by kernel_rfl) rfl rfl rfl rfl rfl rfl sz_9 ?_
            refine ADX.n ?_
            refine ADX.r 10 rfl (rdX_faddr_bx rfl fo_50_3 rfl rfl ⟨_, _, rfl⟩) rfl ?_
            refine ADX.stor 11 rfl (by kernel_rfl) rfl rfl rfl rfl rfl rfl sz_9 ?_
            refine ADX.n ?_
            refine ADX.done (by kernel_rfl) ?_
            change AW _ _ _ _ _
            refine AW.drawX 2 (by kernel_rfl) ?_
            refine ADX.r 0 rfl (rdX_faddr_bx rfl fo_50_6 rfl rfl ⟨_, _, rfl⟩) rfl ?_
            refine ADX.r 1 rfl (rdX_load_bx rfl ag_48 rfl rfl rfl) rfl ?_
            refine ADX.r 2 rfl (rdX_faddr_bx rfl fo_50_7 rfl rfl ⟨_, _, rfl⟩) rfl ?_
            refine ADX.r 3 rfl (rdX_load_bx rfl ag_48 rfl rfl rfl) rfl ?_
            refine ADX.r 4 rfl (rdX_faddr_bx rfl fo_50_6 rfl rfl ⟨_, _, rfl⟩) rfl ?_
            refine ADX.stor 5 rfl (by kernel_rfl) rfl rfl rfl rfl rfl rfl sz_48 ?_
            refine ADX.n ?_
            refine ADX.r 6 rfl (rdX_faddr_bx rfl fo_50_7 rfl rfl ⟨_, _, rfl⟩) rfl ?_
            refine ADX.stor 7 rfl (by kernel_rfl) rfl rfl rfl rfl rfl rfl sz_48 ?_
            refine ADX.n ?_
            refine ADX.done (by kernel_rfl) ?_
            change AW _ _ _ _ _
            refine AW.seq ?_
            refine AW.region ?_
            refine AL.r (rd_loadN_bx rfl ag_50 rfl rfl (Nat.le_of_ble_eq_true rfl) rfl) ?_
            refine AL.op rfl (op_store_ rfl rfl rfl rfl rfl sz_50 ?_)
            refine AL.b ?_
            refine AL.ra ?_
            refine AL.nil ?_
            change AW _ _ _ _ _
            refine AW.ret ?_
            change ResA _ _ _ _ _
            refine res2 rfl (ResV.cells rfl rfl ag_50 (Nat.le_of_ble_eq_true rfl) rfl) rfl (ResV.tmp rfl) rfl ?_
            simp_all [partsL, zL, LensD.cs, csS]
           ·skip
            refine AW.seq ?_
            refine AW.region ?_
            refine AL.r (rd_build rfl pl_50 ze_50 rfl rfl) ?_
            refine AL.op rfl (op_store_ rfl rfl rfl rfl rfl sz_50 ?_)
            refine AL.b ?_
            refine AL.ra ?_
            refine AL.nil ?_
            change AW _ _ _ _ _
            refine AW.ret ?_
            change ResA _ _ _ _ _
            refine res2 rfl (ResV.cells rfl rfl ag_50 (Nat.le_of_ble_eq_true rfl) rfl) rfl (ResV.tmp rfl) rfl ?_
            simp_all [partsL, zL, LensD.cs, csS]
         ·skip
          refine AW.region ?_
          refine AL.r (rd_bin rfl rfl rfl (fun _ => rfl)) ?_
          refine AL.ra ?_
          refine AL.nil ?_
          change AW _ _ _ _ _
          refine AW.cd rfl (fun h46 => ?_) (fun h46 => ?_)
          ·skip
           refine AW.drawX 2 (by kernel_rfl) ?_
           refine ADX.r 0 rfl (rdX_faddr_bx rfl fo_50_1 rfl rfl ⟨_, _, rfl⟩) rfl ?_
           refine ADX.r 1 rfl (rdX_loadN_bx rfl ag_44 rfl rfl (Nat.le_of_ble_eq_true rfl) rfl) rfl ?_
           refine ADX.r 2 rfl (rdX_faddr_bx rfl fo_50_3 rfl rfl ⟨_, _, rfl⟩) rfl ?_
           refine ADX.r 3 rfl (rdX_load_bx rfl ag_9 rfl rfl rfl) rfl ?_
           refine ADX.r 4 rfl (rdX_faddr_bx rfl fo_50_1 rfl rfl ⟨_, _, rfl⟩) rfl ?_
           refine ADX.stor 5 rfl (by kernel_rfl) rfl rfl rfl rfl rfl rfl sz_44 ?_
           refine ADX.n ?_
           refine ADX.r 6 rfl (rdX_faddr_bx rfl fo_50_3 rfl rfl ⟨_, _, rfl⟩) rfl ?_
           refine ADX.stor 7 rfl (by kernel_rfl) rfl rfl rfl rfl rfl rfl sz_9 ?_
           refine ADX.n ?_
           refine ADX.done (by kernel_rfl) ?_
           change AW _ _ _ _ _
           refine AW.seq ?_
           refine AW.region ?_
           refine AL.r (rd_loadN_bx rfl ag_50 rfl rfl (Nat.le_of_ble_eq_true rfl) rfl) ?_
           refine AL.op rfl (op_store_ rfl rfl rfl rfl rfl sz_50 ?_)
           refine AL.b ?_
           refine AL.ra ?_
           refine AL.nil ?_
           change AW _ _ _ _ _
           refine AW.ret ?_
           change ResA _ _ _ _ _
           refine res2 rfl (ResV.cells rfl rfl ag_50 (Nat.le_of_ble_eq_true rfl) rfl) rfl (ResV.tmp rfl) rfl ?_
           simp_all [partsL, zL, LensD.cs, csS]
          ·skip
           refine AW.seq ?_
           refine AW.region ?_
           refine AL.r (rd_bin rfl rfl rfl (fun _ => rfl)) ?_
           refine AL.ra ?_
           refine AL.nil ?_
           change AW _ _ _ _ _
           refine AW.cd rfl (fun h55 => ?_) (fun h55 => ?_)
           ·skip
            refine AW.seq ?_
            refine AW.drawX 2 (by kernel_rfl) ?_
            refine ADX.r 0 rfl (rdX_faddr_bx rfl fo_50_1 rfl rfl ⟨_, _, rfl⟩) rfl ?_
            refine ADX.r 1 rfl (rdX_loadN_bx rfl ag_44 rfl rfl (Nat.le_of_ble_eq_true rfl) rfl) rfl ?_
            refine ADX.r 2 rfl (rdX_faddr_bx rfl fo_50_2 rfl rfl ⟨_, _, rfl⟩) rfl ?_
            refine ADX.r 3 rfl (rdX_load_bx rfl ag_9 rfl rfl rfl) rfl ?_
            refine ADX.r 4 rfl (rdX_faddr_bx rfl fo_50_3 rfl rfl ⟨_, _, rfl⟩) rfl ?_
            refine ADX.r 5 rfl (rdX_load_bx rfl ag_9 rfl rfl rfl) rfl ?_
            refine ADX.r 6 rfl (rdX_faddr_bx rfl fo_50_1 rfl rfl ⟨_, _, rfl⟩) rfl ?_
            refine ADX.stor 7 rfl (by kernel_rfl) rfl rfl rfl rfl rfl rfl sz_44 ?_
            refine ADX.n ?_
            refine ADX.r 8 rfl (rdX_faddr_bx rfl fo_50_2 rfl rfl ⟨_, _, rfl⟩) rfl ?_
            refine ADX.stor 9 rfl (by kernel_rfl) rfl rfl rfl rfl rfl rfl sz_9 ?_
            refine ADX.n ?_
            refine ADX.r 10 rfl (rdX_faddr_bx rfl fo_50_3 rfl rfl ⟨_, _, rfl⟩) rfl ?_
            refine ADX.stor 11 rfl (by kernel_rfl) rfl rfl rfl rfl rfl rfl sz_9 ?_
            refine ADX.n ?_
            refine ADX.done (by kernel_rfl) ?_
            change AW _ _ _ _ _
            refine AW.drawX 2 (by kernel_rfl) ?_
            refine ADX.r 0 rfl (rdX_faddr_bx rfl fo_50_6 rfl rfl ⟨_, _, rfl⟩) rfl ?_
            refine ADX.r 1 rfl (rdX_load_bx rfl ag_48 rfl rfl rfl) rfl ?_
            refine ADX.r 2 rfl (rdX_faddr_bx rfl fo_50_7 rfl rfl ⟨_, _, rfl⟩) rfl ?_
            refine ADX.r 3 rfl (rdX_load_bx rfl ag_48 rfl rfl rfl) rfl ?_
            refine ADX.r 4 rfl (rdX_faddr_bx rfl fo_50_6 rfl rfl ⟨_, _, rfl⟩) rfl ?_
            refine ADX.stor 5 rfl (by kernel_rfl) rfl rfl rfl rfl rfl rfl sz_48 ?_
            refine ADX.n ?_
            refine ADX.r 6 rfl (rdX_faddr_bx rfl fo_50_7 rfl rfl ⟨_, _, rfl⟩) rfl ?_
            refine ADX.stor 7 rfl (by kernel_rfl) rfl rfl rfl rfl rfl rfl sz_48 ?_
            refine ADX.n ?_
            refine ADX.done (by kernel_rfl) ?_
            change AW _ _ _ _ _
            refine AW.seq ?_
            refine AW.region ?_
            refine AL.r (rd_loadN_bx rfl ag_50 rfl rfl (Nat.le_of_ble_eq_true rfl) rfl) ?_
            refine AL.op rfl (op_store_ rfl rfl rfl rfl rfl sz_50 ?_)
            refine AL.b ?_
            refine AL.ra ?_
            refine AL.nil ?_
            change AW _ _ _ _ _
            refine AW.ret ?_
            change ResA _ _ _ _ _
            refine res2 rfl (ResV.cells rfl rfl ag_50 (Nat.le_of_ble_eq_true rfl) rfl) rfl (ResV.tmp rfl) rfl ?_
            simp_all [partsL, zL, LensD.cs, csS]
           ·skip
            refine AW.seq ?_
            refine AW.region ?_
            refine AL.r (rd_build rfl pl_50 ze_50 rfl rfl) ?_
            refine AL.op rfl (op_store_ rfl rfl rfl rfl rfl sz_50 ?_)
            refine AL.b ?_
            refine AL.ra ?_
            refine AL.nil ?_
            change AW _ _ _ _ _
            refine AW.ret ?_
            change ResA _ _ _ _ _
            refine res2 rfl (ResV.cells rfl rfl ag_50 (Nat.le_of_ble_eq_true rfl) rfl) rfl (ResV.tmp rfl) rfl ?_
            simp_all [partsL, zL, LensD.cs, csS]
    ·skip
     refine AW.region ?_
     refine AL.r (rd_bin rfl rfl rfl (fun _ => rfl)) ?_
     refine AL.ra ?_
     refine AL.nil ?_
     change AW _ _ _ _ _
     refine AW.cd rfl (fun h20 => ?_) (fun h20 => ?_)
     ·skip
      refine AW.region ?_
      refine AL.r (rd_faddr_bx rfl fo_50_5 rfl rfl ⟨_, _, rfl⟩) ?_
      refine AL.r (rd_loadN_bx rfl ag_47 rfl rfl (Nat.le_of_ble_eq_true rfl) rfl) ?_
      refine AL.r (rd_faddr_bx rfl fo_50_5 rfl rfl ⟨_, _, rfl⟩) ?_
      refine AL.op rfl (op_store_ rfl rfl rfl rfl rfl sz_47 ?_)
      refine AL.b ?_
      refine AL.nil ?_
      change AW _ _ _ _ _
      refine AW.seq ?_
      refine AW.region ?_
      refine AL.r (rd_loadN_bx rfl ag_50 rfl rfl (Nat.le_of_ble_eq_true rfl) rfl) ?_
      refine AL.op rfl (op_store_ rfl rfl rfl rfl rfl sz_50 ?_)
      refine AL.b ?_
      refine AL.ra ?_
      refine AL.nil ?_
      change AW _ _ _ _ _
      refine AW.ret ?_
      change ResA _ _ _ _ _
      refine res2 rfl (ResV.cells rfl rfl ag_50 (Nat.le_of_ble_eq_true rfl) rfl) rfl (ResV.tmp rfl) rfl ?_
      simp_all [partsL, zL, LensD.cs, csS]
     ·skip
      refine AW.seq ?_
      refine AW.region ?_
      refine AL.r (rd_bin rfl rfl rfl (fun _ => rfl)) ?_
      refine AL.ra ?_
      refine AL.nil ?_
      change AW _ _ _ _ _
      refine AW.cd rfl (fun h26 => ?_) (fun h26 => ?_)
      ·skip
       refine AW.region ?_
       refine AL.r (rd_faddr_bx rfl fo_50_1 rfl rfl ⟨_, _, rfl⟩) ?_
       refine AL.r (rd_loadN_bx rfl ag_44 rfl rfl (Nat.le_of_ble_eq_true rfl) rfl) ?_
       refine AL.r (rd_faddr_bx rfl fo_50_1 rfl rfl ⟨_, _, rfl⟩) ?_
       refine AL.op rfl (op_store_ rfl rfl rfl rfl rfl sz_44 ?_)
       refine AL.b ?_
       refine AL.nil ?_
       change AW _ _ _ _ _
       refine AW.seq ?_
       refine AW.region ?_
       refine AL.r (rd_loadN_bx rfl ag_50 rfl rfl (Nat.le_of_ble_eq_true rfl) rfl) ?_
       refine AL.op rfl (op_store_ rfl rfl rfl rfl rfl sz_50 ?_)
       refine AL.b ?_
       refine AL.ra ?_
       refine AL.nil ?_
       change AW _ _ _ _ _
       refine AW.ret ?_
       change ResA _ _ _ _ _
       refine res2 rfl (ResV.cells rfl rfl ag_50 (Nat.le_of_ble_eq_true rfl) rfl) rfl (ResV.tmp rfl) rfl ?_
       simp_all [partsL, zL, LensD.cs, csS]
      ·skip
       refine AW.seq ?_
       refine AW.seq ?_
       refine AW.region ?_
       refine AL.r (rd_bin rfl rfl rfl (fun _ => rfl)) ?_
       refine AL.ra ?_
       refine AL.nil ?_
       change AW _ _ _ _ _
       refine AW.cd rfl (fun h31 => ?_) (fun h31 => ?_)
       ·skip
        refine AW.skip ?_
        change AW _ _ _ _ _
        refine AW.cd rfl (fun h31 => ?_) (fun h31 => ?_)
        ·skip
         refine AW.drawX 2 (by kernel_rfl) ?_
         refine ADX.r 0 rfl (rdX_faddr_bx rfl fo_50_1 rfl rfl ⟨_, _, rfl⟩) rfl ?_
         refine ADX.r 1 rfl (rdX_loadN_bx rfl ag_44 rfl rfl (Nat.le_of_ble_eq_true rfl) rfl) rfl ?_
         refine ADX.r 2 rfl (rdX_faddr_bx rfl fo_50_2 rfl rfl ⟨_, _, rfl⟩) rfl ?_
         refine ADX.r 3 rfl (rdX_load_bx rfl ag_9 rfl rfl rfl) rfl ?_
         refine ADX.r 4 rfl (rdX_faddr_bx rfl fo_50_3 rfl rfl ⟨_, _, rfl⟩) rfl ?_
         refine ADX.r 5 rfl (rdX_load_bx rfl ag_9 rfl rfl rfl) rfl ?_
         refine ADX.r 6 rfl (rdX_faddr_bx rfl fo_50_4 rfl rfl ⟨_, _, rfl⟩) rfl ?_
         refine ADX.r 7 rfl (rdX_load_bx rfl ag_2 rfl rfl rfl) rfl ?_
         refine ADX.r 8 rfl (rdX_faddr_bx rfl fo_50_1 rfl rfl ⟨_, _, rfl⟩) rfl ?_
         refine ADX.stor 9 rfl (by kernel_rfl) rfl rfl rfl rfl rfl rfl sz_44 ?_
         refine ADX.n ?_
         refine ADX.r 10 rfl (rdX_faddr_bx rfl fo_50_2 rfl rfl ⟨_, _, rfl⟩) rfl ?_
         refine ADX.stor 11 rfl (by kernel_rfl) rfl rfl rfl rfl rfl rfl sz_9 ?_
         refine ADX.n ?_
         refine ADX.r 12 rfl (rdX_faddr_bx rfl fo_50_3 rfl rfl ⟨_, _, rfl⟩) rfl ?_
         refine ADX.stor 13 rfl (by kernel_rfl) rfl rfl rfl rfl rfl rfl sz_9 ?_
         refine ADX.n ?_
         refine ADX.r 14 rfl (rdX_faddr_bx rfl fo_50_4 rfl rfl ⟨_, _, rfl⟩) rfl ?_
         refine ADX.stor 15 rfl (by kernel_rfl) rfl rfl rfl rfl rfl rfl sz_2 ?_
         refine ADX.n ?_
         refine ADX.done (by kernel_rfl) ?_
         change AW _ _ _ _ _
         refine AW.seq ?_
         refine AW.region ?_
         refine AL.r (rd_loadN_bx rfl ag_50 rfl rfl (Nat.le_of_ble_eq_true rfl) rfl) ?_
         refine AL.op rfl (op_store_ rfl rfl rfl rfl rfl sz_50 ?_)
         refine AL.b ?_
         refine AL.ra ?_
         refine AL.nil ?_
         change AW _ _ _ _ _
         refine AW.ret ?_
         change ResA _ _ _ _ _
         refine res2 rfl (ResV.cells rfl rfl ag_50 (Nat.le_of_ble_eq_true rfl) rfl) rfl (ResV.tmp rfl) rfl ?_
         simp_all [partsL, zL, LensD.cs, csS]
        ·skip
         refine AW.seq ?_
         refine AW.seq ?_
         refine AW.region ?_
         refine AL.r (rd_bin rfl rfl rfl (fun _ => rfl)) ?_
         refine AL.ra ?_
         refine AL.nil ?_
         change AW _ _ _ _ _
         refine AW.cd rfl (fun h46 => ?_) (fun h46 => ?_)
         ·skip
          refine AW.skip ?_
          change AW _ _ _ _ _
          refine AW.cd rfl (fun h46 => ?_) (fun h46 => ?_)
          ·skip
           refine AW.drawX 2 (by kernel_rfl) ?_
           refine ADX.r 0 rfl (rdX_faddr_bx rfl fo_50_1 rfl rfl ⟨_, _, rfl⟩) rfl ?_
           refine ADX.r 1 rfl (rdX_loadN_bx rfl ag_44 rfl rfl (Nat.le_of_ble_eq_true rfl) rfl) rfl ?_
           refine ADX.r 2 rfl (rdX_faddr_bx rfl fo_50_3 rfl rfl ⟨_, _, rfl⟩) rfl ?_
           refine ADX.r 3 rfl (rdX_load_bx rfl ag_9 rfl rfl rfl) rfl ?_
           refine ADX.r 4 rfl (rdX_faddr_bx rfl fo_50_1 rfl rfl ⟨_, _, rfl⟩) rfl ?_
           refine ADX.stor 5 rfl (by kernel_rfl) rfl rfl rfl rfl rfl rfl sz_44 ?_
           refine ADX.n ?_
           refine ADX.r 6 rfl (rdX_faddr_bx rfl fo_50_3 rfl rfl ⟨_, _, rfl⟩) rfl ?_
           refine ADX.stor 7 rfl (by kernel_rfl) rfl rfl rfl rfl rfl rfl sz_9 ?_
           refine ADX.n ?_
           refine ADX.done (by kernel_rfl) ?_
           change AW _ _ _ _ _
           refine AW.seq ?_
           refine AW.region ?_
           refine AL.r (rd_loadN_bx rfl ag_50 rfl rfl (Nat.le_of_ble_eq_true rfl) rfl) ?_
           refine AL.op rfl (op_store_ rfl rfl rfl rfl rfl sz_50 ?_)
           refine AL.b ?_
           refine AL.ra ?_
           refine AL.nil ?_
           change AW _ _ _ _ _
           refine AW.ret ?_
           change ResA _ _ _ _ _
           refine res2 rfl (ResV.cells rfl rfl ag_50 (Nat.le_of_ble_eq_true rfl) rfl) rfl (ResV.tmp rfl) rfl ?_
           simp_all [partsL, zL, LensD.cs, csS]
          ·skip
           refine AW.seq ?_
           refine AW.region ?_
           refine AL.r (rd_bin rfl rfl rfl (fun _ => rfl)) ?_
           refine AL.ra ?_
           refine AL.nil ?_
           change AW _ _ _ _ _
           refine AW.cd rfl (fun h55 => ?_) (fun h55 => ?_)
           ·skip
            refine AW.seq ?_
            refine AW.drawX 2 (by kernel_rfl) ?_
            refine ADX.r 0 rfl (rdX_faddr_bx rfl fo_50_1 rfl rfl ⟨_, _, rfl⟩) rfl ?_
            refine ADX.r 1 rfl (rdX_loadN_bx rfl ag_44 rfl rfl (Nat.le_of_ble_eq_true rfl) rfl) rfl ?_
            refine ADX.r 2 rfl (rdX_faddr_bx rfl fo_50_2 rfl rfl ⟨_, _, rfl⟩) rfl ?_
            refine ADX.r 3 rfl (rdX_load_bx rfl ag_9 rfl rfl rfl) rfl ?_
            refine ADX.r 4 rfl (rdX_faddr_bx rfl fo_50_3 rfl rfl ⟨_, _, rfl⟩) rfl ?_
            refine ADX.r 5 rfl (rdX_load_bx rfl ag_9 rfl rfl rfl) rfl ?_
            refine ADX.r 6 rfl (rdX_faddr_bx rfl fo_50_1 rfl rfl ⟨_, _, rfl⟩) rfl ?_
            refine ADX.stor 7 rfl (by kernel_rfl) rfl rfl rfl rfl rfl rfl sz_44 ?_
            refine ADX.n ?_
            refine ADX.r 8 rfl (rdX_faddr_bx rfl fo_50_2 rfl rfl ⟨_, _, rfl⟩) rfl ?_
            refine ADX.stor 9 rfl (by kernel_rfl) rfl rfl rfl rfl rfl rfl sz_9 ?_
            refine ADX.n ?_
            refine ADX.r 10 rfl (rdX_faddr_bx rfl fo_50_3 rfl rfl ⟨_, _, rfl⟩) rfl ?_
            refine ADX.stor 11 rfl (by kernel_rfl) rfl rfl rfl rfl rfl rfl sz_9 ?_
            refine ADX.n ?_
            refine ADX.done (by kernel_rfl) ?_
            change AW _ _ _ _ _
            refine AW.drawX 2 (by kernel_rfl) ?_
            refine ADX.r 0 rfl (rdX_faddr_bx rfl fo_50_6 rfl rfl ⟨_, _, rfl⟩) rfl ?_
            refine ADX.r 1 rfl (rdX_load_bx rfl ag_48 rfl rfl rfl) rfl ?_
            refine ADX.r 2 rfl (rdX_faddr_bx rfl fo_50_7 rfl rfl ⟨_, _, rfl⟩) rfl ?_
            refine ADX.r 3 rfl (rdX_load_bx rfl ag_48 rfl rfl rfl) rfl ?_
            refine ADX.r 4 rfl (rdX_faddr_bx rfl fo_50_6 rfl rfl ⟨_, _, rfl⟩) rfl ?_
            refine ADX.stor 5 rfl (by kernel_rfl) rfl rfl rfl rfl rfl rfl sz_48 ?_
            refine ADX.n ?_
            refine ADX.r 6 rfl (rdX_faddr_bx rfl fo_50_7 rfl rfl ⟨_, _, rfl⟩) rfl ?_
            refine ADX.stor 7 rfl (by kernel_rfl) rfl rfl rfl rfl rfl rfl sz_48 ?_
            refine ADX.n ?_
            refine ADX.done (by kernel_rfl) ?_
            change AW _ _ _ _ _
            refine AW.seq ?_
            refine AW.region ?_
            refine AL.r (rd_loadN_bx rfl ag_50 rfl rfl (Nat.le_of_ble_eq_true rfl) rfl) ?_
            refine AL.op rfl (op_store_ rfl rfl rfl rfl rfl sz_50 ?_)
            refine AL.b ?_
            refine AL.ra ?_
            refine AL.nil ?_
            change AW _ _ _ _ _
            refine AW.ret ?_
            change ResA _ _ _ _ _
            refine res2 rfl (ResV.cells rfl rfl ag_50 (Nat.le_of_ble_eq_true rfl) rfl) rfl (ResV.tmp rfl) rfl ?_
            simp_all [partsL, zL, LensD.cs, csS]
           ·skip
            refine AW.seq ?_
            refine AW.region ?_
            refine AL.r (rd_build rfl pl_50 ze_50 rfl rfl) ?_
            refine AL.op rfl (op_store_ rfl rfl rfl rfl rfl sz_50 ?_)
            refine AL.b ?_
            refine AL.ra ?_
            refine AL.nil ?_
            change AW _ _ _ _ _
            refine AW.ret ?_
            change ResA _ _ _ _ _
            refine res2 rfl (ResV.cells rfl rfl ag_50 (Nat.le_of_ble_eq_true rfl) rfl) rfl (ResV.tmp rfl) rfl ?_
            simp_all [partsL, zL, LensD.cs, csS]
         ·skip
          refine AW.region ?_
          refine AL.r (rd_bin rfl rfl rfl (fun _ => rfl)) ?_
          refine AL.ra ?_
          refine AL.nil ?_
          change AW _ _ _ _ _
          refine AW.cd rfl (fun h46 => ?_) (fun h46 => ?_)
          ·skip
           refine AW.drawX 2 (by kernel_rfl) ?_
           refine ADX.r 0 rfl (rdX_faddr_bx rfl fo_50_1 rfl rfl ⟨_, _, rfl⟩) rfl ?_
           refine ADX.r 1 rfl (rdX_loadN_bx rfl ag_44 rfl rfl (Nat.le_of_ble_eq_true rfl) rfl) rfl ?_
           refine ADX.r 2 rfl (rdX_faddr_bx rfl fo_50_3 rfl rfl ⟨_, _, rfl⟩) rfl ?_
           refine ADX.r 3 rfl (rdX_load_bx rfl ag_9 rfl rfl rfl) rfl ?_
           refine ADX.r 4 rfl (rdX_faddr_bx rfl fo_50_1 rfl rfl ⟨_, _, rfl⟩) rfl ?_
           refine ADX.stor 5 rfl (by kernel_rfl) rfl rfl rfl rfl rfl rfl sz_44 ?_
           refine ADX.n ?_
           refine ADX.r 6 rfl (rdX_faddr_bx rfl fo_50_3 rfl rfl ⟨_, _, rfl⟩) rfl ?_
           refine ADX.stor 7 rfl (by kernel_rfl) rfl rfl rfl rfl rfl rfl sz_9 ?_
           refine ADX.n ?_
           refine ADX.done (by kernel_rfl) ?_
           change AW _ _ _ _ _
           refine AW.seq ?_
           refine AW.region ?_
           refine AL.r (rd_loadN_bx rfl ag_50 rfl rfl (Nat.le_of_ble_eq_true rfl) rfl) ?_
           refine AL.op rfl (op_store_ rfl rfl rfl rfl rfl sz_50 ?_)
           refine AL.b ?_
           refine AL.ra ?_
           refine AL.nil ?_
           change AW _ _ _ _ _
           refine AW.ret ?_
           change ResA _ _ _ _ _
           refine res2 rfl (ResV.cells rfl rfl ag_50 (Nat.le_of_ble_eq_true rfl) rfl) rfl (ResV.tmp rfl) rfl ?_
           simp_all [partsL, zL, LensD.cs, csS]
          ·skip
           refine AW.seq ?_
           refine AW.region ?_
           refine AL.r (rd_bin rfl rfl rfl (fun _ => rfl)) ?_
           refine AL.ra ?_
           refine AL.nil ?_
           change AW _ _ _ _ _
           refine AW.cd rfl (fun h55 => ?_) (fun h55 => ?_)
           ·skip
            refine AW.seq ?_
            refine AW.drawX 2 (by kernel_rfl) ?_
            refine ADX.r 0 rfl (rdX_faddr_bx rfl fo_50_1 rfl rfl ⟨_, _, rfl⟩) rfl ?_
            refine ADX.r 1 rfl (rdX_loadN_bx rfl ag_44 rfl rfl (Nat.le_of_ble_eq_true rfl) rfl) rfl ?_
            refine ADX.r 2 rfl (rdX_faddr_bx rfl fo_50_2 rfl rfl ⟨_, _, rfl⟩) rfl ?_
            refine ADX.r 3 rfl (rdX_load_bx rfl ag_9 rfl rfl rfl) rfl ?_
            refine ADX.r 4 rfl (rdX_faddr_bx rfl fo_50_3 rfl rfl ⟨_, _, rfl⟩) rfl ?_
            refine ADX.r 5 rfl (rdX_load_bx rfl ag_9 rfl rfl rfl) rfl ?_
            refine ADX.r 6 rfl (rdX_faddr_bx rfl fo_50_1 rfl rfl ⟨_, _, rfl⟩) rfl ?_
            refine ADX.stor 7 rfl (by kernel_rfl) rfl rfl rfl rfl rfl rfl sz_44 ?_
            refine ADX.n ?_
            refine ADX.r 8 rfl (rdX_faddr_bx rfl fo_50_2 rfl rfl ⟨_, _, rfl⟩) rfl ?_
            refine ADX.stor 9 rfl (by kernel_rfl) rfl rfl rfl rfl rfl rfl sz_9 ?_
            refine ADX.n ?_
            refine ADX.r 10 rfl (rdX_faddr_bx rfl fo_50_3 rfl rfl ⟨_, _, rfl⟩) rfl ?_
            refine ADX.stor 11 rfl (by kernel_rfl) rfl rfl rfl rfl rfl rfl sz_9 ?_
            refine ADX.n ?_
            refine ADX.done (by kernel_rfl) ?_
            change AW _ _ _ _ _
            refine AW.drawX 2 (by kernel_rfl) ?_
            refine ADX.r 0 rfl (rdX_faddr_bx rfl fo_50_6 rfl rfl ⟨_, _, rfl⟩) rfl ?_
            refine ADX.r 1 rfl (rdX_load_bx rfl ag_48 rfl rfl rfl) rfl ?_
            refine ADX.r 2 rfl (rdX_faddr_bx rfl fo_50_7 rfl rfl ⟨_, _, rfl⟩) rfl ?_
            refine ADX.r 3 rfl (rdX_load_bx rfl ag_48 rfl rfl rfl) rfl ?_
            refine ADX.r 4 rfl (rdX_faddr_bx rfl fo_50_6 rfl rfl ⟨_, _, rfl⟩) rfl ?_
            refine ADX.stor 5 rfl (by kernel_rfl) rfl rfl rfl rfl rfl rfl sz_48 ?_
            refine ADX.n ?_
            refine ADX.r 6 rfl (rdX_faddr_bx rfl fo_50_7 rfl rfl ⟨_, _, rfl⟩) rfl ?_
            refine ADX.stor 7 rfl (by kernel_rfl) rfl rfl rfl rfl rfl rfl sz_48 ?_
            refine ADX.n ?_
            refine ADX.done (by kernel_rfl) ?_
            change AW _ _ _ _ _
            refine AW.seq ?_
            refine AW.region ?_
            refine AL.r (rd_loadN_bx rfl ag_50 rfl rfl (Nat.le_of_ble_eq_true rfl) rfl) ?_
            refine AL.op rfl (op_store_ rfl rfl rfl rfl rfl sz_50 ?_)
            refine AL.b ?_
            refine AL.ra ?_
            refine AL.nil ?_
            change AW _ _ _ _ _
            refine AW.ret ?_
            change ResA _ _ _ _ _
            refine res2 rfl (ResV.cells rfl rfl ag_50 (Nat.le_of_ble_eq_true rfl) rfl) rfl (ResV.tmp rfl) rfl ?_
            simp_all [partsL, zL, LensD.cs, csS]
           ·skip
            refine AW.seq ?_
            refine AW.region ?_
            refine AL.r (rd_build rfl pl_50 ze_50 rfl rfl) ?_
            refine AL.op rfl (op_store_ rfl rfl rfl rfl rfl sz_50 ?_)
            refine AL.b ?_
            refine AL.ra ?_
            refine AL.nil ?_
            change AW _ _ _ _ _
            refine AW.ret ?_
            change ResA _ _ _ _ _
            refine res2 rfl (ResV.cells rfl rfl ag_50 (Nat.le_of_ble_eq_true rfl) rfl) rfl (ResV.tmp rfl) rfl ?_
            simp_all [partsL, zL, LensD.cs, csS]
       ·skip
        refine AW.region ?_
        refine AL.r (rd_bin rfl rfl rfl (fun _ => rfl)) ?_
        refine AL.ra ?_
        refine AL.nil ?_
        change AW _ _ _ _ _
        refine AW.cd rfl (fun h31 => ?_) (fun h31 => ?_)
        ·skip
         refine AW.drawX 2 (by kernel_rfl) ?_
         refine ADX.r 0 rfl (rdX_faddr_bx rfl fo_50_1 rfl rfl ⟨_, _, rfl⟩) rfl ?_
         refine ADX.r 1 rfl (rdX_loadN_bx rfl ag_44 rfl rfl (Nat.le_of_ble_eq_true rfl) rfl) rfl ?_
         refine ADX.r 2 rfl (rdX_faddr_bx rfl fo_50_2 rfl rfl ⟨_, _, rfl⟩) rfl ?_
         refine ADX.r 3 rfl (rdX_load_bx rfl ag_9 rfl rfl rfl) rfl ?_
         refine ADX.r 4 rfl (rdX_faddr_bx rfl fo_50_3 rfl rfl ⟨_, _, rfl⟩) rfl ?_
         refine ADX.r 5 rfl (rdX_load_bx rfl ag_9 rfl rfl rfl) rfl ?_
         refine ADX.r 6 rfl (rdX_faddr_bx rfl fo_50_4 rfl rfl ⟨_, _, rfl⟩) rfl ?_
         refine ADX.r 7 rfl (rdX_load_bx rfl ag_2 rfl rfl rfl) rfl ?_
         refine ADX.r 8 rfl (rdX_faddr_bx rfl fo_50_1 rfl rfl ⟨_, _, rfl⟩) rfl ?_
         refine ADX.stor 9 rfl (by kernel_rfl) rfl rfl rfl rfl rfl rfl sz_44 ?_
         refine ADX.n ?_
         refine ADX.r 10 rfl (rdX_faddr_bx rfl fo_50_2 rfl rfl ⟨_, _, rfl⟩) rfl ?_
         refine ADX.stor 11 rfl (by kernel_rfl) rfl rfl rfl rfl rfl rfl sz_9 ?_
         refine ADX.n ?_
         refine ADX.r 12 rfl (rdX_faddr_bx rfl fo_50_3 rfl rfl ⟨_, _, rfl⟩) rfl ?_
         refine ADX.stor 13 rfl (by kernel_rfl) rfl rfl rfl rfl rfl rfl sz_9 ?_
         refine ADX.n ?_
         refine ADX.r 14 rfl (rdX_faddr_bx rfl fo_50_4 rfl rfl ⟨_, _, rfl⟩) rfl ?_
         refine ADX.stor 15 rfl (by kernel_rfl) rfl rfl rfl rfl rfl rfl sz_2 ?_
         refine ADX.n ?_
         refine ADX.done (by kernel_rfl) ?_
         change AW _ _ _ _ _
         refine AW.seq ?_
         refine AW.region ?_
         refine AL.r (rd_loadN_bx rfl ag_50 rfl rfl (Nat.le_of_ble_eq_true rfl) rfl) ?_
         refine AL.op rfl (op_store_ rfl rfl rfl rfl rfl sz_50 ?_)
         refine AL.b ?_
         refine AL.ra ?_
         refine AL.nil ?_
         change AW _ _ _ _ _
         refine AW.ret ?_
         change ResA _ _ _ _ _
         refine res2 rfl (ResV.cells rfl rfl ag_50 (Nat.le_of_ble_eq_true rfl) rfl) rfl (ResV.tmp rfl) rfl ?_
         simp_all [partsL, zL, LensD.cs, csS]
        ·skip
         refine AW.seq ?_
         refine AW.seq ?_
         refine AW.region ?_
         refine AL.r (rd_bin rfl rfl rfl (fun _ => rfl)) ?_
         refine AL.ra ?_
         refine AL.nil ?_
         change AW _ _ _ _ _
         refine AW.cd rfl (fun h46 => ?_) (fun h46 => ?_)
         ·skip
          refine AW.skip ?_
          change AW _ _ _ _ _
          refine AW.cd rfl (fun h46 => ?_) (fun h46 => ?_)
          ·skip
           refine AW.drawX 2 (by kernel_rfl) ?_
           refine ADX.r 0 rfl (rdX_faddr_bx rfl fo_50_1 rfl rfl ⟨_, _, rfl⟩) rfl ?_
           refine ADX.r 1 rfl (rdX_loadN_bx rfl ag_44 rfl rfl (Nat.le_of_ble_eq_true rfl) rfl) rfl ?_
           refine ADX.r 2 rfl (rdX_faddr_bx rfl fo_50_3 rfl rfl ⟨_, _, rfl⟩) rfl ?_
           refine ADX.r 3 rfl (rdX_load_bx rfl ag_9 rfl rfl rfl) rfl ?_
           refine ADX.r 4 rfl (rdX_faddr_bx rfl fo_50_1 rfl rfl ⟨_, _, rfl⟩) rfl ?_
           refine ADX.stor 5 rfl (by kernel_rfl) rfl rfl rfl rfl rfl rfl sz_44 ?_
           refine ADX.n ?_
           refine ADX.r 6 rfl (rdX_faddr_bx rfl fo_50_3 rfl rfl ⟨_, _, rfl⟩) rfl ?_
           refine ADX.stor 7 rfl (by kernel_rfl) rfl rfl rfl rfl rfl rfl sz_9 ?_
           refine ADX.n ?_
           refine ADX.done (by kernel_rfl) ?_
           change AW _ _ _ _ _
           refine AW.seq ?_
           refine AW.region ?_
           refine AL.r (rd_loadN_bx rfl ag_50 rfl rfl (Nat.le_of_ble_eq_true rfl) rfl) ?_
           refine AL.op rfl (op_store_ rfl rfl rfl rfl rfl sz_50 ?_)
           refine AL.b ?_
           refine AL.ra ?_
           refine AL.nil ?_
           change AW _ _ _ _ _
           refine AW.ret ?_
           change ResA _ _ _ _ _
           refine res2 rfl (ResV.cells rfl rfl ag_50 (Nat.le_of_ble_eq_true rfl) rfl) rfl (ResV.tmp rfl) rfl ?_
           simp_all [partsL, zL, LensD.cs, csS]
          ·skip
           refine AW.seq ?_
           refine AW.region ?_
           refine AL.r (rd_bin rfl rfl rfl (fun _ => rfl)) ?_
           refine AL.ra ?_
           refine AL.nil ?_
           change AW _ _ _ _ _
           refine AW.cd rfl (fun h55 => ?_) (fun h55 => ?_)
           ·skip
            refine AW.seq ?_
            refine AW.drawX 2 (by kernel_rfl) ?_
            refine ADX.r 0 rfl (rdX_faddr_bx rfl fo_50_1 rfl rfl ⟨_, _, rfl⟩) rfl ?_
            refine ADX.r 1 rfl (rdX_loadN_bx rfl ag_44 rfl rfl (Nat.le_of_ble_eq_true rfl) rfl) rfl ?_
            refine ADX.r 2 rfl (rdX_faddr_bx rfl fo_50_2 rfl rfl ⟨_, _, rfl⟩) rfl ?_
            refine ADX.r 3 rfl (rdX_load_bx rfl ag_9 rfl rfl rfl) rfl ?_
            refine ADX.r 4 rfl (rdX_faddr_bx rfl fo_50_3 rfl rfl ⟨_, _, rfl⟩) rfl ?_
            refine ADX.r 5 rfl (rdX_load_bx rfl ag_9 rfl rfl rfl) rfl ?_
            refine ADX.r 6 rfl (rdX_faddr_bx rfl fo_50_1 rfl rfl ⟨_, _, rfl⟩) rfl ?_
            refine ADX.stor 7 rfl (by kernel_rfl) rfl rfl rfl rfl rfl rfl sz_44 ?_
            refine ADX.n ?_
            refine ADX.r 8 rfl (rdX_faddr_bx rfl fo_50_2 rfl rfl ⟨_, _, rfl⟩) rfl ?_
            refine ADX.stor 9 rfl (by kernel_rfl) rfl rfl rfl rfl rfl rfl sz_9 ?_
            refine ADX.n ?_
            refine ADX.r 10 rfl (rdX_faddr_bx rfl fo_50_3 rfl rfl ⟨_, _, rfl⟩) rfl ?_
            refine ADX.stor 11 rfl (by kernel_rfl) rfl rfl rfl rfl rfl rfl sz_9 ?_
            refine ADX.n ?_
            refine ADX.done (by kernel_rfl) ?_
            change AW _ _ _ _ _
            refine AW.drawX 2 (by kernel_rfl) ?_
            refine ADX.r 0 rfl (rdX_faddr_bx rfl fo_50_6 rfl rfl ⟨_, _, rfl⟩) rfl ?_
            refine ADX.r 1 rfl (rdX_load_bx rfl ag_48 rfl rfl rfl) rfl ?_
            refine ADX.r 2 rfl (rdX_faddr_bx rfl fo_50_7 rfl rfl ⟨_, _, rfl⟩) rfl ?_
            refine ADX.r 3 rfl (rdX_load_bx rfl ag_48 rfl rfl rfl) rfl ?_
            refine ADX.r 4 rfl (rdX_faddr_bx rfl fo_50_6 rfl rfl ⟨_, _, rfl⟩) rfl ?_
            refine ADX.stor 5 rfl (by kernel_rfl) rfl rfl rfl rfl rfl rfl sz_48 ?_
            refine ADX.n ?_
            refine ADX.r 6 rfl (rdX_faddr_bx rfl fo_50_7 rfl rfl ⟨_, _, rfl⟩) rfl ?_
            refine ADX.stor 7 rfl (by kernel_rfl) rfl rfl rfl rfl rfl rfl sz_48 ?_
            refine ADX.n ?_
            refine ADX.done (by kernel_rfl) ?_
            change AW _ _ _ _ _
            refine AW.seq ?_
            refine AW.region ?_
            refine AL.r (rd_loadN_bx rfl ag_50 rfl rfl (Nat.le_of_ble_eq_true rfl) rfl) ?_
            refine AL.op rfl (op_store_ rfl rfl rfl rfl rfl sz_50 ?_)
            refine AL.b ?_
            refine AL.ra ?_
            refine AL.nil ?_
            change AW _ _ _ _ _
            refine AW.ret ?_
            change ResA _ _ _ _ _
            refine res2 rfl (ResV.cells rfl rfl ag_50 (Nat.le_of_ble_eq_true rfl) rfl) rfl (ResV.tmp rfl) rfl ?_
            simp_all [partsL, zL, LensD.cs, csS]
           ·skip
            refine AW.seq ?_
            refine AW.region ?_
            refine AL.r (rd_build rfl pl_50 ze_50 rfl rfl) ?_
            refine AL.op rfl (op_store_ rfl rfl rfl rfl rfl sz_50 ?_)
            refine AL.b ?_
            refine AL.ra ?_
            refine AL.nil ?_
            change AW _ _ _ _ _
            refine AW.ret ?_
            change ResA _ _ _ _ _
            refine res2 rfl (ResV.cells rfl rfl ag_50 (Nat.le_of_ble_eq_true rfl) rfl) rfl (ResV.tmp rfl) rfl ?_
            simp_all [partsL, zL, LensD.cs, csS]
         ·skip
          refine AW.region ?_
          refine AL.r (rd_bin rfl rfl rfl (fun _ => rfl)) ?_
          refine AL.ra ?_
          refine AL.nil ?_
          change AW _ _ _ _ _
          refine AW.cd rfl (fun h46 => ?_) (fun h46 => ?_)
          ·skip
           refine AW.drawX 2 (by kernel_rfl) ?_
           refine ADX.r 0 rfl (rdX_faddr_bx rfl fo_50_1 rfl rfl ⟨_, _, rfl⟩) rfl ?_
           refine ADX.r 1 rfl (rdX_loadN_bx rfl ag_44 rfl rfl (Nat.le_of_ble_eq_true rfl) rfl) rfl ?_
           refine ADX.r 2 rfl (rdX_faddr_bx rfl fo_50_3 rfl rfl ⟨_, _, rfl⟩) rfl ?_
           refine ADX.r 3 rfl (rdX_load_bx rfl ag_9 rfl rfl rfl) rfl ?_
           refine ADX.r 4 rfl (rdX_faddr_bx rfl fo_50_1 rfl rfl ⟨_, _, rfl⟩) rfl ?_
           refine ADX.stor 5 rfl (by kernel_rfl) rfl rfl rfl rfl rfl rfl sz_44 ?_
           refine ADX.n ?_
           refine ADX.r 6 rfl (rdX_faddr_bx rfl fo_50_3 rfl rfl ⟨_, _, rfl⟩) rfl ?_
           refine ADX.stor 7 rfl (by kernel_rfl) rfl rfl rfl rfl rfl rfl sz_9 ?_
           refine ADX.n ?_
           refine ADX.done (by kernel_rfl) ?_
           change AW _ _ _ _ _
           refine AW.seq ?_
           refine AW.region ?_
           refine AL.r (rd_loadN_bx rfl ag_50 rfl rfl (Nat.le_of_ble_eq_true rfl) rfl) ?_
           refine AL.op rfl (op_store_ rfl rfl rfl rfl rfl sz_50 ?_)
           refine AL.b ?_
           refine AL.ra ?_
           refine AL.nil ?_
           change AW _ _ _ _ _
           refine AW.ret ?_
           change ResA _ _ _ _ _
           refine res2 rfl (ResV.cells rfl rfl ag_50 (Nat.le_of_ble_eq_true rfl) rfl) rfl (ResV.tmp rfl) rfl ?_
           simp_all [partsL, zL, LensD.cs, csS]
          ·skip
           refine AW.seq ?_
           refine AW.region ?_
           refine AL.r (rd_bin rfl rfl rfl (fun _ => rfl)) ?_
           refine AL.ra ?_
           refine AL.nil ?_
           change AW _ _ _ _ _
           refine AW.cd rfl (fun h55 => ?_) (fun h55 => ?_)
           ·skip
            refine AW.seq ?_
            refine AW.drawX 2 (by kernel_rfl) ?_
            refine ADX.r 0 rfl (rdX_faddr_bx rfl fo_50_1 rfl rfl ⟨_, _, rfl⟩) rfl ?_
            refine ADX.r 1 rfl (rdX_loadN_bx rfl ag_44 rfl rfl (Nat.le_of_ble_eq_true rfl) rfl) rfl ?_
            refine ADX.r 2 rfl (rdX_faddr_bx rfl fo_50_2 rfl rfl ⟨_, _, rfl⟩) rfl ?_
            refine ADX.r 3 rfl (rdX_load_bx rfl ag_9 rfl rfl rfl) rfl ?_
            refine ADX.r 4 rfl (rdX_faddr_bx rfl fo_50_3 rfl rfl ⟨_, _, rfl⟩) rfl ?_
            refine ADX.r 5 rfl (rdX_load_bx rfl ag_9 rfl rfl rfl) rfl ?_
            refine ADX.r 6 rfl (rdX_faddr_bx rfl fo_50_1 rfl rfl ⟨_, _, rfl⟩) rfl ?_
            refine ADX.stor 7 rfl (by kernel_rfl) rfl rfl rfl rfl rfl rfl sz_44 ?_
            refine ADX.n ?_
            refine ADX.r 8 rfl (rdX_faddr_bx rfl fo_50_2 rfl rfl ⟨_, _, rfl⟩) rfl ?_
            refine ADX.stor 9 rfl (by kernel_rfl) rfl rfl rfl rfl rfl rfl sz_9 ?_
            refine ADX.n ?_
            refine ADX.r 10 rfl (rdX_faddr_bx rfl fo_50_3 rfl rfl ⟨_, _, rfl⟩) rfl ?_
            refine ADX.stor 11 rfl (by kernel_rfl) rfl rfl rfl rfl rfl rfl sz_9 ?_
            refine ADX.n ?_
            refine ADX.done (by kernel_rfl) ?_
            change AW _ _ _ _ _
            refine AW.drawX 2 (by kernel_rfl) ?_
            refine ADX.r 0 rfl (rdX_faddr_bx rfl fo_50_6 rfl rfl ⟨_, _, rfl⟩) rfl ?_
            refine ADX.r 1 rfl (rdX_load_bx rfl ag_48 rfl rfl rfl) rfl ?_
            refine ADX.r 2 rfl (rdX_faddr_bx rfl fo_50_7 rfl rfl ⟨_, _, rfl⟩) rfl ?_
            refine ADX.r 3 rfl (rdX_load_bx rfl ag_48 rfl rfl rfl) rfl ?_
            refine ADX.r 4 rfl (rdX_faddr_bx rfl fo_50_6 rfl rfl ⟨_, _, rfl⟩) rfl ?_
            refine ADX.stor 5 rfl (by kernel_rfl) rfl rfl rfl rfl rfl rfl sz_48 ?_
            refine ADX.n ?_
            refine ADX.r 6 rfl (rdX_faddr_bx rfl fo_50_7 rfl rfl ⟨_, _, rfl⟩) rfl ?_
            refine ADX.stor 7 rfl (by kernel_rfl) rfl rfl rfl rfl rfl rfl sz_48 ?_
            refine ADX.n ?_
            refine ADX.done (by kernel_rfl) ?_
            change AW _ _ _ _ _
            refine AW.seq ?_
            refine AW.region ?_
            refine AL.r (rd_loadN_bx rfl ag_50 rfl rfl (Nat.le_of_ble_eq_true rfl) rfl) ?_
            refine AL.op rfl (op_store_ rfl rfl rfl rfl rfl sz_50 ?_)
            refine AL.b ?_
            refine AL.ra ?_
            refine AL.nil ?_
            change AW _ _ _ _ _
            refine AW.ret ?_
            change ResA _ _ _ _ _
            refine res2 rfl (ResV.cells rfl rfl ag_50 (Nat.le_of_ble_eq_true rfl) rfl) rfl (ResV.tmp rfl) rfl ?_
            simp_all [partsL, zL, LensD.cs, csS]
           ·skip
            refine AW.seq ?_
            refine AW.region ?_
            refine AL.r (rd_build rfl pl_50 ze_50 rfl rfl) ?_
            refine AL.op rfl (op_store_ rfl rfl rfl rfl rfl sz_50 ?_)
            refine AL.b ?_
            refine AL.ra ?_
            refine AL.nil ?_
            change AW _ _ _ _ _
            refine AW.ret ?_
            change ResA _ _ _ _ _
            refine res2 rfl (ResV.cells rfl rfl ag_50 (Nat.le_of_ble_eq_true rfl) rfl) rfl (ResV.tmp rfl) rfl ?_
            simp_all [partsL, zL, LensD.cs, csS]
  ·skip
   refine AW.region ?_
   refine AL.r (rd_bin rfl rfl rfl (fun _ => rfl)) ?_
   refine AL.ra ?_
   refine AL.nil ?_
   change AW _ _ _ _ _
   refine AW.cd rfl (fun h11 => ?_) (fun h11 => ?_)
   ·skip
    refine AW.drawX 2 (by kernel_rfl) ?_
    refine ADX.r 0 rfl (rdX_faddr_bx rfl fo_50_1 rfl rfl ⟨_, _, rfl⟩) rfl ?_
    refine ADX.r 1 rfl (rdX_loadN_bx rfl ag_44 rfl rfl (Nat.le_of_ble_eq_true rfl) rfl) rfl ?_
    refine ADX.r 2 rfl (rdX_faddr_bx rfl fo_50_2 rfl rfl ⟨_, _, rfl⟩) rfl ?_
    refine ADX.r 3 rfl (rdX_load_bx rfl ag_9 rfl rfl rfl) rfl ?_
    refine ADX.r 4 rfl (rdX_faddr_bx rfl fo_50_1 rfl rfl ⟨_, _, rfl⟩) rfl ?_
    refine ADX.stor 5 rfl (by kernel_rfl) rfl rfl rfl rfl rfl rfl sz_44 ?_
    refine ADX.n ?_
    refine ADX.r 6 rfl (rdX_faddr_bx rfl fo_50_2 rfl rfl ⟨_, _, rfl⟩) rfl ?_
    refine ADX.stor 7 rfl (by kernel_rfl) rfl rfl rfl rfl rfl rfl sz_9 ?_
    refine ADX.n ?_
    refine ADX.done (by kernel_rfl) ?_
    change AW _ _ _ _ _
    refine AW.seq ?_
    refine AW.region ?_
    refine AL.r (rd_loadN_bx rfl ag_50 rfl rfl (Nat.le_of_ble_eq_true rfl) rfl) ?_
    refine AL.op rfl (op_store_ rfl rfl rfl rfl rfl sz_50 ?_)
    refine AL.b ?_
    refine AL.ra ?_
    refine AL.nil ?_
    change AW _ _ _ _ _
    refine AW.ret ?_
    change ResA _ _ _ _ _
    refine res2 rfl (ResV.cells rfl rfl ag_50 (Nat.le_of_ble_eq_true rfl) rfl) rfl (ResV.tmp rfl) rfl ?_
    simp_all [partsL, zL, LensD.cs, csS]
   ·skip
    refine AW.seq ?_
    refine AW.seq ?_
    refine AW.region ?_
    refine AL.r (rd_bin rfl rfl rfl (fun _ => rfl)) ?_
    refine AL.ra ?_
    refine AL.nil ?_
    change AW _ _ _ _ _
    refine AW.cd rfl (fun h20 => ?_) (fun h20 => ?_)
    ·skip
     refine AW.skip ?_
     change AW _ _ _ _ _
     refine AW.cd rfl (fun h20 => ?_) (fun h20 => ?_)
     ·skip
      refine AW.region ?_
      refine AL.r (rd_faddr_bx rfl fo_50_5 rfl rfl ⟨_, _, rfl⟩) ?_
      refine AL.r (rd_loadN_bx rfl ag_47 rfl rfl (Nat.le_of_ble_eq_true rfl) rfl) ?_
      refine AL.r (rd_faddr_bx rfl fo_50_5 rfl rfl ⟨_, _, rfl⟩) ?_
      refine AL.op rfl (op_store_ rfl rfl rfl rfl rfl sz_47 ?_)
      refine AL.b ?_
      refine AL.nil ?_
      change AW _ _ _ _ _
      refine AW.seq ?_
      refine AW.region ?_
      refine AL.r (rd_loadN_bx rfl ag_50 rfl rfl (Nat.le_of_ble_eq_true rfl) rfl) ?_
      refine AL.op rfl (op_store_ rfl rfl rfl rfl rfl sz_50 ?_)
      refine AL.b ?_
      refine AL.ra ?_
      refine AL.nil ?_
      change AW _ _ _ _ _
      refine AW.ret ?_
      change ResA _ _ _ _ _
      refine res2 rfl (ResV.cells rfl rfl ag_50 (Nat.le_of_ble_eq_true rfl) rfl) rfl (ResV.tmp rfl) rfl ?_
      simp_all [partsL, zL, LensD.cs, csS]
     ·skip
      refine AW.seq ?_
      refine AW.region ?_
      refine AL.r (rd_bin rfl rfl rfl (fun _ => rfl)) ?_
      refine AL.ra ?_
      refine AL.nil ?_
      change AW _ _ _ _ _
      refine AW.cd rfl (fun h26 => ?_) (fun h26 => ?_)
      ·skip
       refine AW.region ?_
       refine AL.r (rd_faddr_bx rfl fo_50_1 rfl rfl ⟨_, _, rfl⟩) ?_
       refine AL.r (rd_loadN_bx rfl ag_44 rfl rfl (Nat.le_of_ble_eq_true rfl) rfl) ?_
       refine AL.r (rd_faddr_bx rfl fo_50_1 rfl rfl ⟨_, _, rfl⟩) ?_
       refine AL.op rfl (op_store_ rfl rfl rfl rfl rfl sz_44 ?_)
       refine AL.b ?_
       refine AL.nil ?_
       change AW _ _ _ _ _
       refine AW.seq ?_
       refine AW.region ?_
       refine AL.r (rd_loadN_bx rfl ag_50 rfl rfl (Nat.le_of_ble_eq_true rfl) rfl) ?_
       refine AL.op rfl (op_store_ rfl rfl rfl rfl rfl sz_50 ?_)
       refine AL.b ?_
       refine AL.ra ?_
       refine AL.nil ?_
       change AW _ _ _ _ _
       refine AW.ret ?_
       change ResA _ _ _ _ _
       refine res2 rfl (ResV.cells rfl rfl ag_50 (Nat.le_of_ble_eq_true rfl) rfl) rfl (ResV.tmp rfl) rfl ?_
       simp_all [partsL, zL, LensD.cs, csS]
      ·skip
       refine AW.seq ?_
       refine AW.seq ?_
       refine AW.region ?_
       refine AL.r (rd_bin rfl rfl rfl (fun _ => rfl)) ?_
       refine AL.ra ?_
       refine AL.nil ?_
       change AW _ _ _ _ _
       refine AW.cd rfl (fun h31 => ?_) (fun h31 => ?_)
       ·skip
        refine AW.skip ?_
        change AW _ _ _ _ _
        refine AW.cd rfl (fun h31 => ?_) (fun h31 => ?_)
        ·skip
         refine AW.drawX 2 (by kernel_rfl) ?_
         refine ADX.r 0 rfl (rdX_faddr_bx rfl fo_50_1 rfl rfl ⟨_, _, rfl⟩) rfl ?_
         refine ADX.r 1 rfl (rdX_loadN_bx rfl ag_44 rfl rfl (Nat.le_of_ble_eq_true rfl) rfl) rfl ?_
         refine ADX.r 2 rfl (rdX_faddr_bx rfl fo_50_2 rfl rfl ⟨_, _, rfl⟩) rfl ?_
         refine ADX.r 3 rfl (rdX_load_bx rfl ag_9 rfl rfl rfl) rfl ?_
         refine ADX.r 4 rfl (rdX_faddr_bx rfl fo_50_3 rfl rfl ⟨_, _, rfl⟩) rfl ?_
         refine ADX.r 5 rfl (rdX_load_bx rfl ag_9 rfl rfl rfl) rfl ?_
         refine ADX.r 6 rfl (rdX_faddr_bx rfl fo_50_4 rfl rfl ⟨_, _, rfl⟩) rfl ?_
         refine ADX.r 7 rfl (rdX_load_bx rfl ag_2 rfl rfl rfl) rfl ?_
         refine ADX.r 8 rfl (rdX_faddr_bx rfl fo_50_1 rfl rfl ⟨_, _, rfl⟩) rfl ?_
         refine ADX.stor 9 rfl (by kernel_rfl) rfl rfl rfl rfl rfl rfl sz_44 ?_
         refine ADX.n ?_
         refine ADX.r 10 rfl (rdX_faddr_bx rfl fo_50_2 rfl rfl ⟨_, _, rfl⟩) rfl ?_
         refine ADX.stor 11 rfl (by kernel_rfl) rfl rfl rfl rfl rfl rfl sz_9 ?_
         refine ADX.n ?_
         refine ADX.r 12 rfl (rdX_faddr_bx rfl fo_50_3 rfl rfl ⟨_, _, rfl⟩) rfl ?_
         refine ADX.stor 13 rfl (by kernel_rfl) rfl rfl rfl rfl rfl rfl sz_9 ?_
         refine ADX.n ?_
         refine ADX.r 14 rfl (rdX_faddr_bx rfl fo_50_4 rfl rfl ⟨_, _, rfl⟩) rfl ?_
         refine ADX.stor 15 rfl (by kernel_rfl) rfl rfl rfl rfl rfl rfl sz_2 ?_
         refine ADX.n ?_
         refine ADX.done (by kernel_rfl) ?_
         change AW _ _ _ _ _
         refine AW.seq ?_
         refine AW.region ?_
         refine AL.r (rd_loadN_bx rfl ag_50 rfl rfl (Nat.le_of_ble_eq_true rfl) rfl) ?_
         refine AL.op rfl (op_store_ rfl rfl rfl rfl rfl sz_50 ?_)
         refine AL.b ?_
         refine AL.ra ?_
         refine AL.nil ?_
         change AW _ _ _ _ _
         refine AW.ret ?_
         change ResA _ _ _ _ _
         refine res2 rfl (ResV.cells rfl rfl ag_50 (Nat.le_of_ble_eq_true rfl) rfl) rfl (ResV.tmp rfl) rfl ?_
         simp_all [partsL, zL, LensD.cs, csS]
        ·skip
         refine AW.seq ?_
         refine AW.seq ?_
         refine AW.region ?_
         refine AL.r (rd_bin rfl rfl rfl (fun _ => rfl)) ?_
         refine AL.ra ?_
         refine AL.nil ?_
         change AW _ _ _ _ _
         refine AW.cd rfl (fun h46 => ?_) (fun h46 => ?_)
         ·skip
          refine AW.skip ?_
          change AW _ _ _ _ _
          refine AW.cd rfl (fun h46 => ?_) (fun h46 => ?_)
          ·skip
           refine AW.drawX 2 (by kernel_rfl) ?_
           refine ADX.r 0 rfl (rdX_faddr_bx rfl fo_50_1 rfl rfl ⟨_, _, rfl⟩) rfl ?_
           refine ADX.r 1 rfl (rdX_loadN_bx rfl ag_44 rfl rfl (Nat.le_of_ble_eq_true rfl) rfl) rfl ?_
           refine ADX.r 2 rfl (rdX_faddr_bx rfl fo_50_3 rfl rfl ⟨_, _, rfl⟩) rfl ?_
           refine ADX.r 3 rfl (rdX_load_bx rfl ag_9 rfl rfl rfl) rfl ?_
           refine ADX.r 4 rfl (rdX_faddr_bx rfl fo_50_1 rfl rfl ⟨_, _, rfl⟩) rfl ?_
           refine ADX.stor 5 rfl (by kernel_rfl) rfl rfl rfl rfl rfl rfl sz_44 ?_
           refine ADX.n ?_
           refine ADX.r 6 rfl (rdX_faddr_bx rfl fo_50_3 rfl rfl ⟨_, _, rfl⟩) rfl ?_
           refine ADX.stor 7 rfl (by kernel_rfl) rfl rfl rfl rfl rfl rfl sz_9 ?_
           refine ADX.n ?_
           refine ADX.done (by kernel_rfl) ?_
           change AW _ _ _ _ _
           refine AW.seq ?_
           refine AW.region ?_
           refine AL.r (rd_loadN_bx rfl ag_50 rfl rfl (Nat.le_of_ble_eq_true rfl) rfl) ?_
           refine AL.op rfl (op_store_ rfl rfl rfl rfl rfl sz_50 ?_)
           refine AL.b ?_
           refine AL.ra ?_
           refine AL.nil ?_
           change AW _ _ _ _ _
           refine AW.ret ?_
           change ResA _ _ _ _ _
           refine res2 rfl (ResV.cells rfl rfl ag_50 (Nat.le_of_ble_eq_true rfl) rfl) rfl (ResV.tmp rfl) rfl ?_
           simp_all [partsL, zL, LensD.cs, csS]
          ·skip
           refine AW.seq ?_
           refine AW.region ?_
           refine AL.r (rd_bin rfl rfl rfl (fun _ => rfl)) ?_
           refine AL.ra ?_
           refine AL.nil ?_
           change AW _ _ _ _ _
           refine AW.cd rfl (fun h55 => ?_) (fun h55 => ?_)
           ·skip
            refine AW.seq ?_
            refine AW.drawX 2 (by kernel_rfl) ?_
            refine ADX.r 0 rfl (rdX_faddr_bx rfl fo_50_1 rfl rfl ⟨_, _, rfl⟩) rfl ?_
            refine ADX.r 1 rfl (rdX_loadN_bx rfl ag_44 rfl rfl (Nat.le_of_ble_eq_true rfl) rfl) rfl ?_
            refine ADX.r 2 rfl (rdX_faddr_bx rfl fo_50_2 rfl rfl ⟨_, _, rfl⟩) rfl ?_
            refine ADX.r 3 rfl (rdX_load_bx rfl ag_9 rfl rfl rfl) rfl ?_
            refine ADX.r 4 rfl (rdX_faddr_bx rfl fo_50_3 rfl rfl ⟨_, _, rfl⟩) rfl ?_
            refine ADX.r 5 rfl (rdX_load_bx rfl ag_9 rfl rfl rfl) rfl ?_
            refine ADX.r 6 rfl (rdX_faddr_bx rfl fo_50_1 rfl rfl ⟨_, _, rfl⟩) rfl ?_
            refine ADX.stor 7 rfl (by kernel_rfl) rfl rfl rfl rfl rfl rfl sz_44 ?_
            refine ADX.n ?_
            refine ADX.r 8 rfl (rdX_faddr_bx rfl fo_50_2 rfl rfl ⟨_, _, rfl⟩) rfl ?_
            refine ADX.stor 9 rfl (by kernel_rfl) rfl rfl rfl rfl rfl rfl sz_9 ?_
            refine ADX.n ?_
            refine ADX.r 10 rfl (rdX_faddr_bx rfl fo_50_3 rfl rfl ⟨_, _, rfl⟩) rfl ?_
            refine ADX.stor 11 rfl (by kernel_rfl) rfl rfl rfl rfl rfl rfl sz_9 ?_
            refine ADX.n ?_
            refine ADX.done (by kernel_rfl) ?_
            change AW _ _ _ _ _
            refine AW.drawX 2 (by kernel_rfl) ?_
            refine ADX.r 0 rfl (rdX_faddr_bx rfl fo_50_6 rfl rfl ⟨_, _, rfl⟩) rfl ?_
            refine ADX.r 1 rfl (rdX_load_bx rfl ag_48 rfl rfl rfl) rfl ?_
            refine ADX.r 2 rfl (rdX_faddr_bx rfl fo_50_7 rfl rfl ⟨_, _, rfl⟩) rfl ?_
            refine ADX.r 3 rfl (rdX_load_bx rfl ag_48 rfl rfl rfl) rfl ?_
            refine ADX.r 4 rfl (rdX_faddr_bx rfl fo_50_6 rfl rfl ⟨_, _, rfl⟩) rfl ?_
            refine ADX.stor 5 rfl (by kernel_rfl) rfl rfl rfl rfl rfl rfl sz_48 ?_
            refine ADX.n ?_
            refine ADX.r 6 rfl (rdX_faddr_bx rfl fo_50_7 rfl rfl ⟨_, _, rfl⟩) rfl ?_
            refine ADX.stor 7 rfl (by kernel_rfl) rfl rfl rfl rfl rfl rfl sz_48 ?_
            refine ADX.n ?_
            refine ADX.done (by kernel_rfl) ?_
            change AW _ _ _ _ _
            refine AW.seq ?_
            refine AW.region ?_
            refine AL.r (rd_loadN_bx rfl ag_50 rfl rfl (Nat.le_of_ble_eq_true rfl) rfl) ?_
            refine AL.op rfl (op_store_ rfl rfl rfl rfl rfl sz_50 ?_)
            refine AL.b ?_
            refine AL.ra ?_
            refine AL.nil ?_
            change AW _ _ _ _ _
            refine AW.ret ?_
            change ResA _ _ _ _ _
            refine res2 rfl (ResV.cells rfl rfl ag_50 (Nat.le_of_ble_eq_true rfl) rfl) rfl (ResV.tmp rfl) rfl ?_
            simp_all [partsL, zL, LensD.cs, csS]
           ·skip
            refine AW.seq ?_
            refine AW.region ?_
            refine AL.r (rd_build rfl pl_50 ze_50 rfl rfl) ?_
            refine AL.op rfl (op_store_ rfl rfl rfl rfl rfl sz_50 ?_)
            refine AL.b ?_
            refine AL.ra ?_
            refine AL.nil ?_
            change AW _ _ _ _ _
            refine AW.ret ?_
            change ResA _ _ _ _ _
            refine res2 rfl (ResV.cells rfl rfl ag_50 (Nat.le_of_ble_eq_true rfl) rfl) rfl (ResV.tmp rfl) rfl ?_
            simp_all [partsL, zL, LensD.cs, csS]
         ·skip
          refine AW.region ?_
          refine AL.r (rd_bin rfl rfl rfl (fun _ => rfl)) ?_
          refine AL.ra ?_
          refine AL.nil ?_
          change AW _ _ _ _ _
          refine AW.cd rfl (fun h46 => ?_) (fun h46 => ?_)
          ·skip
           refine AW.drawX 2 (by kernel_rfl) ?_
           refine ADX.r 0 rfl (rdX_faddr_bx rfl fo_50_1 rfl rfl ⟨_, _, rfl⟩) rfl ?_
           refine ADX.r 1 rfl (rdX_loadN_bx rfl ag_44 rfl rfl (Nat.le_of_ble_eq_true rfl) rfl) rfl ?_
           refine ADX.r 2 rfl (rdX_faddr_bx rfl fo_50_3 rfl rfl ⟨_, _, rfl⟩) rfl ?_
           refine ADX.r 3 rfl (rdX_load_bx rfl ag_9 rfl rfl rfl) rfl ?_
           refine ADX.r 4 rfl (rdX_faddr_bx rfl fo_50_1 rfl rfl ⟨_, _, rfl⟩) rfl ?_
           refine ADX.stor 5 rfl (by kernel_rfl) rfl rfl rfl rfl rfl rfl sz_44 ?_
           refine ADX.n ?_
           refine ADX.r 6 rfl (rdX_faddr_bx rfl fo_50_3 rfl rfl ⟨_, _, rfl⟩) rfl ?_
           refine ADX.stor 7 rfl (by kernel_rfl) rfl rfl rfl rfl rfl rfl sz_9 ?_
           refine ADX.n ?_
           refine ADX.done (by kernel_rfl) ?_
           change AW _ _ _ _ _
           refine AW.seq ?_
           refine AW.region ?_
           refine AL.r (rd_loadN_bx rfl ag_50 rfl rfl (Nat.le_of_ble_eq_true rfl) rfl) ?_
           refine AL.op rfl (op_store_ rfl rfl rfl rfl rfl sz_50 ?_)
           refine AL.b ?_
           refine AL.ra ?_
           refine AL.nil ?_
           change AW _ _ _ _ _
           refine AW.ret ?_
           change ResA _ _ _ _ _
           refine res2 rfl (ResV.cells rfl rfl ag_50 (Nat.le_of_ble_eq_true rfl) rfl) rfl (ResV.tmp rfl) rfl ?_
           simp_all [partsL, zL, LensD.cs, csS]
          ·skip
           refine AW.seq ?_
           refine AW.region ?_
           refine AL.r (rd_bin rfl rfl rfl (fun _ => rfl)) ?_
           refine AL.ra ?_
           refine AL.nil ?_
           change AW _ _ _ _ _
           refine AW.cd rfl (fun h55 => ?_) (fun h55 => ?_)
           ·skip
            refine AW.seq ?_
            refine AW.drawX 2 (by kernel_rfl) ?_
            refine ADX.r 0 rfl (rdX_faddr_bx rfl fo_50_1 rfl rfl ⟨_, _, rfl⟩) rfl ?_
            refine ADX.r 1 rfl (rdX_loadN_bx rfl ag_44 rfl rfl (Nat.le_of_ble_eq_true rfl) rfl) rfl ?_
            refine ADX.r 2 rfl (rdX_faddr_bx rfl fo_50_2 rfl rfl ⟨_, _, rfl⟩) rfl ?_
            refine ADX.r 3 rfl (rdX_load_bx rfl ag_9 rfl rfl rfl) rfl ?_
            refine ADX.r 4 rfl (rdX_faddr_bx rfl fo_50_3 rfl rfl ⟨_, _, rfl⟩) rfl ?_
            refine ADX.r 5 rfl (rdX_load_bx rfl ag_9 rfl rfl rfl) rfl ?_
            refine ADX.r 6 rfl (rdX_faddr_bx rfl fo_50_1 rfl rfl ⟨_, _, rfl⟩) rfl ?_
            refine ADX.stor 7 rfl (by kernel_rfl) rfl rfl rfl rfl rfl rfl sz_44 ?_
            refine ADX.n ?_
            refine ADX.r 8 rfl (rdX_faddr_bx rfl fo_50_2 rfl rfl ⟨_, _, rfl⟩) rfl ?_
            refine ADX.stor 9 rfl (by kernel_rfl) rfl rfl rfl rfl rfl rfl sz_9 ?_
            refine ADX.n ?_
            refine ADX.r 10 rfl (rdX_faddr_bx rfl fo_50_3 rfl rfl ⟨_, _, rfl⟩) rfl ?_
            refine ADX.stor 11 rfl (by kernel_rfl) rfl rfl rfl rfl rfl rfl sz_9 ?_
            refine ADX.n ?_
            refine ADX.done (by kernel_rfl) ?_
            change AW _ _ _ _ _
            refine AW.drawX 2 (by kernel_rfl) ?_
            refine ADX.r 0 rfl (rdX_faddr_bx rfl fo_50_6 rfl rfl ⟨_, _, rfl⟩) rfl ?_
            refine ADX.r 1 rfl (rdX_load_bx rfl ag_48 rfl rfl rfl) rfl ?_
            refine ADX.r 2 rfl (rdX_faddr_bx rfl fo_50_7 rfl rfl ⟨_, _, rfl⟩) rfl ?_
            refine ADX.r 3 rfl (rdX_load_bx rfl ag_48 rfl rfl rfl) rfl ?_
            refine ADX.r 4 rfl (rdX_faddr_bx rfl fo_50_6 rfl rfl ⟨_, _, rfl⟩) rfl ?_
            refine ADX.stor 5 rfl (by kernel_rfl) rfl rfl rfl rfl rfl rfl sz_48 ?_
            refine ADX.n ?_
            refine ADX.r 6 rfl (rdX_faddr_bx rfl fo_50_7 rfl rfl ⟨_, _, rfl⟩) rfl ?_
            refine ADX.stor 7 rfl (by kernel_rfl) rfl rfl rfl rfl rfl rfl sz_48 ?_
            refine ADX.n ?_
            refine ADX.done (by kernel_rfl) ?_
            change AW _ _ _ _ _
            refine AW.seq ?_
            refine AW.region ?_
            refine AL.r (rd_loadN_bx rfl ag_50 rfl rfl (Nat.le_of_ble_eq_true rfl) rfl) ?_
            refine AL.op rfl (op_store_ rfl rfl rfl rfl rfl sz_50 ?_)
            refine AL.b ?_
            refine AL.ra ?_
            refine AL.nil ?_
            change AW _ _ _ _ _
            refine AW.ret ?_
            change ResA _ _ _ _ _
            refine res2 rfl (ResV.cells rfl rfl ag_50 (Nat.le_of_ble_eq_true rfl) rfl) rfl (ResV.tmp rfl) rfl ?_
            simp_all [partsL, zL, LensD.cs, csS]
           ·skip
            refine AW.seq ?_
            refine AW.region ?_
            refine AL.r (rd_build rfl pl_50 ze_50 rfl rfl) ?_
            refine AL.op rfl (op_store_ rfl rfl rfl rfl rfl sz_50 ?_)
            refine AL.b ?_
            refine AL.ra ?_
            refine AL.nil ?_
            change AW _ _ _ _ _
            refine AW.ret ?_
            change ResA _ _ _ _ _
            refine res2 rfl (ResV.cells rfl rfl ag_50 (Nat.le_of_ble_eq_true rfl) rfl) rfl (ResV.tmp rfl) rfl ?_
            simp_all [partsL, zL, LensD.cs, csS]
       ·skip
        refine AW.region ?_
        refine AL.r (rd_bin rfl rfl rfl (fun _ => rfl)) ?_
        refine AL.ra ?_
        refine AL.nil ?_
        change AW _ _ _ _ _
        refine AW.cd rfl (fun h31 => ?_) (fun h31 => ?_)
        ·skip
         refine AW.drawX 2 (by kernel_rfl) ?_
         refine ADX.r 0 rfl (rdX_faddr_bx rfl fo_50_1 rfl rfl ⟨_, _, rfl⟩) rfl ?_
         refine ADX.r 1 rfl (rdX_loadN_bx rfl ag_44 rfl rfl (Nat.le_of_ble_eq_true rfl) rfl) rfl ?_
         refine ADX.r 2 rfl (rdX_faddr_bx rfl fo_50_2 rfl rfl ⟨_, _, rfl⟩) rfl ?_
         refine ADX.r 3 rfl (rdX_load_bx rfl ag_9 rfl rfl rfl) rfl ?_
         refine ADX.r 4 rfl (rdX_faddr_bx rfl fo_50_3 rfl rfl ⟨_, _, rfl⟩) rfl ?_
         refine ADX.r 5 rfl (rdX_load_bx rfl ag_9 rfl rfl rfl) rfl ?_
         refine ADX.r 6 rfl (rdX_faddr_bx rfl fo_50_4 rfl rfl ⟨_, _, rfl⟩) rfl ?_
         refine ADX.r 7 rfl (rdX_load_bx rfl ag_2 rfl rfl rfl) rfl ?_
         refine ADX.r 8 rfl (rdX_faddr_bx rfl fo_50_1 rfl rfl ⟨_, _, rfl⟩) rfl ?_
         refine ADX.stor 9 rfl (by kernel_rfl) rfl rfl rfl rfl rfl rfl sz_44 ?_
         refine ADX.n ?_
         refine ADX.r 10 rfl (rdX_faddr_bx rfl fo_50_2 rfl rfl ⟨_, _, rfl⟩) rfl ?_
         refine ADX.stor 11 rfl (by kernel_rfl) rfl rfl rfl rfl rfl rfl sz_9 ?_
         refine ADX.n ?_
         refine ADX.r 12 rfl (rdX_faddr_bx rfl fo_50_3 rfl rfl ⟨_, _, rfl⟩) rfl ?_
         refine ADX.stor 13 rfl (by kernel_rfl) rfl rfl rfl rfl rfl rfl sz_9 ?_
         refine ADX.n ?_
         refine ADX.r 14 rfl (rdX_faddr_bx rfl fo_50_4 rfl rfl ⟨_, _, rfl⟩) rfl ?_
         refine ADX.stor 15 rfl (by kernel_rfl) rfl rfl rfl rfl rfl rfl sz_2 ?_
         refine ADX.n ?_
         refine ADX.done (by kernel_rfl) ?_
         change AW _ _ _ _ _
         refine AW.seq ?_
         refine AW.region ?_
         refine AL.r (rd_loadN_bx rfl ag_50 rfl rfl (Nat.le_of_ble_eq_true rfl) rfl) ?_
         refine AL.op rfl (op_store_ rfl rfl rfl rfl rfl sz_50 ?_)
         refine AL.b ?_
         refine AL.ra ?_
         refine AL.nil ?_
         change AW _ _ _ _ _
         refine AW.ret ?_
         change ResA _ _ _ _ _
         refine res2 rfl (ResV.cells rfl rfl ag_50 (Nat.le_of_ble_eq_true rfl) rfl) rfl (ResV.tmp rfl) rfl ?_
         simp_all [partsL, zL, LensD.cs, csS]
        ·skip
         refine AW.seq ?_
         refine AW.seq ?_
         refine AW.region ?_
         refine AL.r (rd_bin rfl rfl rfl (fun _ => rfl)) ?_
         refine AL.ra ?_
         refine AL.nil ?_
         change AW _ _ _ _ _
         refine AW.cd rfl (fun h46 => ?_) (fun h46 => ?_)
         ·skip
          refine AW.skip ?_
          change AW _ _ _ _ _
          refine AW.cd rfl (fun h46 => ?_) (fun h46 => ?_)
          ·skip
           refine AW.drawX 2 (by kernel_rfl) ?_
           refine ADX.r 0 rfl (rdX_faddr_bx rfl fo_50_1 rfl rfl ⟨_, _, rfl⟩) rfl ?_
           refine ADX.r 1 rfl (rdX_loadN_bx rfl ag_44 rfl rfl (Nat.le_of_ble_eq_true rfl) rfl) rfl ?_
           refine ADX.r 2 rfl (rdX_faddr_bx rfl fo_50_3 rfl rfl ⟨_, _, rfl⟩) rfl ?_
           refine ADX.r 3 rfl (rdX_load_bx rfl ag_9 rfl rfl rfl) rfl ?_
           refine ADX.r 4 rfl (rdX_faddr_bx rfl fo_50_1 rfl rfl ⟨_, _, rfl⟩) rfl ?_
           refine ADX.stor 5 rfl (by kernel_rfl) rfl rfl rfl rfl rfl rfl sz_44 ?_
           refine ADX.n ?_
           refine ADX.r 6 rfl (rdX_faddr_bx rfl fo_50_3 rfl rfl ⟨_, _, rfl⟩) rfl ?_
           refine ADX.stor 7 rfl (by kernel_rfl) rfl rfl rfl rfl rfl rfl sz_9 ?_
           refine ADX.n ?_
           refine ADX.done (by kernel_rfl) ?_
           change AW _ _ _ _ _
           refine AW.seq ?_
           refine AW.region ?_
           refine AL.r (rd_loadN_bx rfl ag_50 rfl rfl (Nat.le_of_ble_eq_true rfl) rfl) ?_
           refine AL.op rfl (op_store_ rfl rfl rfl rfl rfl sz_50 ?_)
           refine AL.b ?_
           refine AL.ra ?_
           refine AL.nil ?_
           change AW _ _ _ _ _
           refine AW.ret ?_
           change ResA _ _ _ _ _
           refine res2 rfl (ResV.cells rfl rfl ag_50 (Nat.le_of_ble_eq_true rfl) rfl) rfl (ResV.tmp rfl) rfl ?_
           simp_all [partsL, zL, LensD.cs, csS]
          ·skip
           refine AW.seq ?_
           refine AW.region ?_
           refine AL.r (rd_bin rfl rfl rfl (fun _ => rfl)) ?_
           refine AL.ra ?_
           refine AL.nil ?_
           change AW _ _ _ _ _
           refine AW.cd rfl (fun h55 => ?_) (fun h55 => ?_)
           ·skip
            refine AW.seq ?_
            refine AW.drawX 2 (by kernel_rfl) ?_
            refine ADX.r 0 rfl (rdX_faddr_bx rfl fo_50_1 rfl rfl ⟨_, _, rfl⟩) rfl ?_
            refine ADX.r 1 rfl (rdX_loadN_bx rfl ag_44 rfl rfl (Nat.le_of_ble_eq_true rfl) rfl) rfl ?_
            refine ADX.r 2 rfl (rdX_faddr_bx rfl fo_50_2 rfl rfl ⟨_, _, rfl⟩) rfl ?_
            refine ADX.r 3 rfl (rdX_load_bx rfl ag_9 rfl rfl rfl) rfl ?_
            refine ADX.r 4 rfl (rdX_faddr_bx rfl fo_50_3 rfl rfl ⟨_, _, rfl⟩) rfl ?_
            refine ADX.r 5 rfl (rdX_load_bx rfl ag_9 rfl rfl rfl) rfl ?_
            refine ADX.r 6 rfl (rdX_faddr_bx rfl fo_50_1 rfl rfl ⟨_, _, rfl⟩) rfl ?_
            refine ADX.stor 7 rfl (by kernel_rfl) rfl rfl rfl rfl rfl rfl sz_44 ?_
            refine ADX.n ?_
            refine ADX.r 8 rfl (rdX_faddr_bx rfl fo_50_2 rfl rfl ⟨_, _, rfl⟩) rfl ?_
            refine ADX.stor 9 rfl (by kernel_rfl) rfl rfl rfl rfl rfl rfl sz_9 ?_
            refine ADX.n ?_
            refine ADX.r 10 rfl (rdX_faddr_bx rfl fo_50_3 rfl rfl ⟨_, _, rfl⟩) rfl ?_
            refine ADX.stor 11 rfl (by kernel_rfl) rfl rfl rfl rfl rfl rfl sz_9 ?_
            refine ADX.n ?_
            refine ADX.done (by kernel_rfl) ?_
            change AW _ _ _ _ _
            refine AW.drawX 2 (by kernel_rfl) ?_
            refine ADX.r 0 rfl (rdX_faddr_bx rfl fo_50_6 rfl rfl ⟨_, _, rfl⟩) rfl ?_
            refine ADX.r 1 rfl (rdX_load_bx rfl ag_48 rfl rfl rfl) rfl ?_
            refine ADX.r 2 rfl (rdX_faddr_bx rfl fo_50_7 rfl rfl ⟨_, _, rfl⟩) rfl ?_
            refine ADX.r 3 rfl (rdX_load_bx rfl ag_48 rfl rfl rfl) rfl ?_
            refine ADX.r 4 rfl (rdX_faddr_bx rfl fo_50_6 rfl rfl ⟨_, _, rfl⟩) rfl ?_
            refine ADX.stor 5 rfl (by kernel_rfl) rfl rfl rfl rfl rfl rfl sz_48 ?_
            refine ADX.n ?_
            refine ADX.r 6 rfl (rdX_faddr_bx rfl fo_50_7 rfl rfl ⟨_, _, rfl⟩) rfl ?_
            refine ADX.stor 7 rfl (by kernel_rfl) rfl rfl rfl rfl rfl rfl sz_48 ?_
            refine ADX.n ?_
            refine ADX.done (by kernel_rfl) ?_
            change AW _ _ _ _ _
            refine AW.seq ?_
            refine AW.region ?_
            refine AL.r (rd_loadN_bx rfl ag_50 rfl rfl (Nat.le_of_ble_eq_true rfl) rfl) ?_
            refine AL.op rfl (op_store_ rfl rfl rfl rfl rfl sz_50 ?_)
            refine AL.b ?_
            refine AL.ra ?_
            refine AL.nil ?_
            change AW _ _ _ _ _
            refine AW.ret ?_
            change ResA _ _ _ _ _
            refine res2 rfl (ResV.cells rfl rfl ag_50 (Nat.le_of_ble_eq_true rfl) rfl) rfl (ResV.tmp rfl) rfl ?_
            simp_all [partsL, zL, LensD.cs, csS]
           ·skip
            refine AW.seq ?_
            refine AW.region ?_
            refine AL.r (rd_build rfl pl_50 ze_50 rfl rfl) ?_
            refine AL.op rfl (op_store_ rfl rfl rfl rfl rfl sz_50 ?_)
            refine AL.b ?_
            refine AL.ra ?_
            refine AL.nil ?_
            change AW _ _ _ _ _
            refine AW.ret ?_
            change ResA _ _ _ _ _
            refine res2 rfl (ResV.cells rfl rfl ag_50 (Nat.le_of_ble_eq_true rfl) rfl) rfl (ResV.tmp rfl) rfl ?_
            simp_all [partsL, zL, LensD.cs, csS]
         ·skip
          refine AW.region ?_
          refine AL.r (rd_bin rfl rfl rfl (fun _ => rfl)) ?_
          refine AL.ra ?_
          refine AL.nil ?_
          change AW _ _ _ _ _
          refine AW.cd rfl (fun h46 => ?_) (fun h46 => ?_)
          ·skip
           refine AW.drawX 2 (by kernel_rfl) ?_
           refine ADX.r 0 rfl (rdX_faddr_bx rfl fo_50_1 rfl rfl ⟨_, _, rfl⟩) rfl ?_
           refine ADX.r 1 rfl (rdX_loadN_bx rfl ag_44 rfl rfl (Nat.le_of_ble_eq_true rfl) rfl) rfl ?_
           refine ADX.r 2 rfl (rdX_faddr_bx rfl fo_50_3 rfl rfl ⟨_, _, rfl⟩) rfl ?_
           refine ADX.r 3 rfl (rdX_load_bx rfl ag_9 rfl rfl rfl) rfl ?_
           refine ADX.r 4 rfl (rdX_faddr_bx rfl fo_50_1 rfl rfl ⟨_, _, rfl⟩) rfl ?_
           refine ADX.stor 5 rfl (by kernel_rfl) rfl rfl rfl rfl rfl rfl sz_44 ?_
           refine ADX.n ?_
           refine ADX.r 6 rfl (rdX_faddr_bx rfl fo_50_3 rfl rfl ⟨_, _, rfl⟩) rfl ?_
           refine ADX.stor 7 rfl (by kernel_rfl) rfl rfl rfl rfl rfl rfl sz_9 ?_
           refine ADX.n ?_
           refine ADX.done (by kernel_rfl) ?_
           change AW _ _ _ _ _
           refine AW.seq ?_
           refine AW.region ?_
           refine AL.r (rd_loadN_bx rfl ag_50 rfl rfl (Nat.le_of_ble_eq_true rfl) rfl) ?_
           refine AL.op rfl (op_store_ rfl rfl rfl rfl rfl sz_50 ?_)
           refine AL.b ?_
           refine AL.ra ?_
           refine AL.nil ?_
           change AW _ _ _ _ _
           refine AW.ret ?_
           change ResA _ _ _ _ _
           refine res2 rfl (ResV.cells rfl rfl ag_50 (Nat.le_of_ble_eq_true rfl) rfl) rfl (ResV.tmp rfl) rfl ?_
           simp_all [partsL, zL, LensD.cs, csS]
          ·skip
           refine AW.seq ?_
           refine AW.region ?_
           refine AL.r (rd_bin rfl rfl rfl (fun _ => rfl)) ?_
           refine AL.ra ?_
           refine AL.nil ?_
           change AW _ _ _ _ _
           refine AW.cd rfl (fun h55 => ?_) (fun h55 => ?_)
           ·skip
            refine AW.seq ?_
            refine AW.drawX 2 (by kernel_rfl) ?_
            refine ADX.r 0 rfl (rdX_faddr_bx rfl fo_50_1 rfl rfl ⟨_, _, rfl⟩) rfl ?_
            refine ADX.r 1 rfl (rdX_loadN_bx rfl ag_44 rfl rfl (Nat.le_of_ble_eq_true rfl) rfl) rfl ?_
            refine ADX.r 2 rfl (rdX_faddr_bx rfl fo_50_2 rfl rfl ⟨_, _, rfl⟩) rfl ?_
            refine ADX.r 3 rfl (rdX_load_bx rfl ag_9 rfl rfl rfl) rfl ?_
            refine ADX.r 4 rfl (rdX_faddr_bx rfl fo_50_3 rfl rfl ⟨_, _, rfl⟩) rfl ?_
            refine ADX.r 5 rfl (rdX_load_bx rfl ag_9 rfl rfl rfl) rfl ?_
            refine ADX.r 6 rfl (rdX_faddr_bx rfl fo_50_1 rfl rfl ⟨_, _, rfl⟩) rfl ?_
            refine ADX.stor 7 rfl (by kernel_rfl) rfl rfl rfl rfl rfl rfl sz_44 ?_
            refine ADX.n ?_
            refine ADX.r 8 rfl (rdX_faddr_bx rfl fo_50_2 rfl rfl ⟨_, _, rfl⟩) rfl ?_
            refine ADX.stor 9 rfl (by kernel_rfl) rfl rfl rfl rfl rfl rfl sz_9 ?_
            refine ADX.n ?_
            refine ADX.r 10 rfl (rdX_faddr_bx rfl fo_50_3 rfl rfl ⟨_, _, rfl⟩) rfl ?_
            refine ADX.stor 11 rfl (by kernel_rfl) rfl rfl rfl rfl rfl rfl sz_9 ?_
            refine ADX.n ?_
            refine ADX.done (by kernel_rfl) ?_
            change AW _ _ _ _ _
            refine AW.drawX 2 (by kernel_rfl) ?_
            refine ADX.r 0 rfl (rdX_faddr_bx rfl fo_50_6 rfl rfl ⟨_, _, rfl⟩) rfl ?_
            refine ADX.r 1 rfl (rdX_load_bx rfl ag_48 rfl rfl rfl) rfl ?_
            refine ADX.r 2 rfl (rdX_faddr_bx rfl fo_50_7 rfl rfl ⟨_, _, rfl⟩) rfl ?_
            refine ADX.r 3 rfl (rdX_load_bx rfl ag_48 rfl rfl rfl) rfl ?_
            refine ADX.r 4 rfl (rdX_faddr_bx rfl fo_50_6 rfl rfl ⟨_, _, rfl⟩) rfl ?_
            refine ADX.stor 5 rfl (by kernel_rfl) rfl rfl rfl rfl rfl rfl sz_48 ?_
            refine ADX.n ?_
            refine ADX.r 6 rfl (rdX_faddr_bx rfl fo_50_7 rfl rfl ⟨_, _, rfl⟩) rfl ?_
            refine ADX.stor 7 rfl (by kernel_rfl) rfl rfl rfl rfl rfl rfl sz_48 ?_
            refine ADX.n ?_
            refine ADX.done (by kernel_rfl) ?_
            change AW _ _ _ _ _
            refine AW.seq ?_
            refine AW.region ?_
            refine AL.r (rd_loadN_bx rfl ag_50 rfl rfl (Nat.le_of_ble_eq_true rfl) rfl) ?_
            refine AL.op rfl (op_store_ rfl rfl rfl rfl rfl sz_50 ?_)
            refine AL.b ?_
            refine AL.ra ?_
            refine AL.nil ?_
            change AW _ _ _ _ _
            refine AW.ret ?_
            change ResA _ _ _ _ _
            refine res2 rfl (ResV.cells rfl rfl ag_50 (Nat.le_of_ble_eq_true rfl) rfl) rfl (ResV.tmp rfl) rfl ?_
            simp_all [partsL, zL, LensD.cs, csS]
           ·skip
            refine AW.seq ?_
            refine AW.region ?_
            refine AL.r (rd_build rfl pl_50 ze_50 rfl rfl) ?_
            refine AL.op rfl (op_store_ rfl rfl rfl rfl rfl sz_50 ?_)
            refine AL.b ?_
            refine AL.ra ?_
            refine AL.nil ?_
            change AW _ _ _ _ _
            refine AW.ret ?_
            change ResA _ _ _ _ _
            refine res2 rfl (ResV.cells rfl rfl ag_50 (Nat.le_of_ble_eq_true rfl) rfl) rfl (ResV.tmp rfl) rfl ?_
            simp_all [partsL, zL, LensD.cs, csS]
    ·skip
     refine AW.region ?_
     refine AL.r (rd_bin rfl rfl rfl (fun _ => rfl)) ?_
     refine AL.ra ?_
     refine AL.nil ?_
     change AW _ _ _ _ _
     refine AW.cd rfl (fun h20 => ?_) (fun h20 => ?_)
     ·skip
      refine AW.region ?_
      refine AL.r (rd_faddr_bx rfl fo_50_5 rfl rfl ⟨_, _, rfl⟩) ?_
      refine AL.r (rd_loadN_bx rfl ag_47 rfl rfl (Nat.le_of_ble_eq_true rfl) rfl) ?_
      refine AL.r (rd_faddr_bx rfl fo_50_5 rfl rfl ⟨_, _, rfl⟩) ?_
      refine AL.op rfl (op_store_ rfl rfl rfl rfl rfl sz_47 ?_)
      refine AL.b ?_
      refine AL.nil ?_
      change AW _ _ _ _ _
      refine AW.seq ?_
      refine AW.region ?_
      refine AL.r (rd_loadN_bx rfl ag_50 rfl rfl (Nat.le_of_ble_eq_true rfl) rfl) ?_
      refine AL.op rfl (op_store_ rfl rfl rfl rfl rfl sz_50 ?_)
      refine AL.b ?_
      refine AL.ra ?_
      refine AL.nil ?_
      change AW _ _ _ _ _
      refine AW.ret ?_
      change ResA _ _ _ _ _
      refine res2 rfl (ResV.cells rfl rfl ag_50 (Nat.le_of_ble_eq_true rfl) rfl) rfl (ResV.tmp rfl) rfl ?_
      simp_all [partsL, zL, LensD.cs, csS]
     ·skip
      refine AW.seq ?_
      refine AW.region ?_
      refine AL.r (rd_bin rfl rfl rfl (fun _ => rfl)) ?_
      refine AL.ra ?_
      refine AL.nil ?_
      change AW _ _ _ _ _
      refine AW.cd rfl (fun h26 => ?_) (fun h26 => ?_)
      ·skip
       refine AW.region ?_
       refine AL.r (rd_faddr_bx rfl fo_50_1 rfl rfl ⟨_, _, rfl⟩) ?_
       refine AL.r (rd_loadN_bx rfl ag_44 rfl rfl (Nat.le_of_ble_eq_true rfl) rfl) ?_
       refine AL.r (rd_faddr_bx rfl fo_50_1 rfl rfl ⟨_, _, rfl⟩) ?_
       refine AL.op rfl (op_store_ rfl rfl rfl rfl rfl sz_44 ?_)
       refine AL.b ?_
       refine AL.nil ?_
       change AW _ _ _ _ _
       refine AW.seq ?_
       refine AW.region ?_
       refine AL.r (rd_loadN_bx rfl ag_50 rfl rfl (Nat.le_of_ble_eq_true rfl) rfl) ?_
       refine AL.op rfl (op_store_ rfl rfl rfl rfl rfl sz_50 ?_)
       refine AL.b ?_
       refine AL.ra ?_
       refine AL.nil ?_
       change AW _ _ _ _ _
       refine AW.ret ?_
       change ResA _ _ _ _ _
       refine res2 rfl (ResV.cells rfl rfl ag_50 (Nat.le_of_ble_eq_true rfl) rfl) rfl (ResV.tmp rfl) rfl ?_
       simp_all [partsL, zL, LensD.cs, csS]
      ·skip
       refine AW.seq ?_
       refine AW.seq ?_
       refine AW.region ?_
       refine AL.r (rd_bin rfl rfl rfl (fun _ => rfl)) ?_
       refine AL.ra ?_
       refine AL.nil ?_
       change AW _ _ _ _ _
       refine AW.cd rfl (fun h31 => ?_) (fun h31 => ?_)
       ·skip
        refine AW.skip ?_
        change AW _ _ _ _ _
        refine AW.cd rfl (fun h31 => ?_) (fun h31 => ?_)
        ·skip
         refine AW.drawX 2 (by kernel_rfl) ?_
         refine ADX.r 0 rfl (rdX_faddr_bx rfl fo_50_1 rfl rfl ⟨_, _, rfl⟩) rfl ?_
         refine ADX.r 1 rfl (rdX_loadN_bx rfl ag_44 rfl rfl (Nat.le_of_ble_eq_true rfl) rfl) rfl ?_
         refine ADX.r 2 rfl (rdX_faddr_bx rfl fo_50_2 rfl rfl ⟨_, _, rfl⟩) rfl ?_
         refine ADX.r 3 rfl (rdX_load_bx rfl ag_9 rfl rfl rfl) rfl ?_
         refine ADX.r 4 rfl (rdX_faddr_bx rfl fo_50_3 rfl rfl ⟨_, _, rfl⟩) rfl ?_
         refine ADX.r 5 rfl (rdX_load_bx rfl ag_9 rfl rfl rfl) rfl ?_
         refine ADX.r 6 rfl (rdX_faddr_bx rfl fo_50_4 rfl rfl ⟨_, _, rfl⟩) rfl ?_
         refine ADX.r 7 rfl (rdX_load_bx rfl ag_2 rfl rfl rfl) rfl ?_
         refine ADX.r 8 rfl (rdX_faddr_bx rfl fo_50_1 rfl rfl ⟨_, _, rfl⟩) rfl ?_
         refine ADX.stor 9 rfl (by kernel_rfl) rfl rfl rfl rfl rfl rfl sz_44 ?_
         refine ADX.n ?_
         refine ADX.r 10 rfl (rdX_faddr_bx rfl fo_50_2 rfl rfl ⟨_, _, rfl⟩) rfl ?_
         refine ADX.stor 11 rfl (by kernel_rfl) rfl rfl rfl rfl rfl rfl sz_9 ?_
         refine ADX.n ?_
         refine ADX.r 12 rfl (rdX_faddr_bx rfl fo_50_3 rfl rfl ⟨_, _, rfl⟩) rfl ?_
         refine ADX.stor 13 rfl (by kernel_rfl) rfl rfl rfl rfl rfl rfl sz_9 ?_
         refine ADX.n ?_
         refine ADX.r 14 rfl (rdX_faddr_bx rfl fo_50_4 rfl rfl ⟨_, _, rfl⟩) rfl ?_
         refine ADX.stor 15 rfl (by kernel_rfl) rfl rfl rfl rfl rfl rfl sz_2 ?_
         refine ADX.n ?_
         refine ADX.done (by kernel_rfl) ?_
         change AW _ _ _ _ _
         refine AW.seq ?_
         refine AW.region ?_
         refine AL.r (rd_loadN_bx rfl ag_50 rfl rfl (Nat.le_of_ble_eq_true rfl) rfl) ?_
         refine AL.op rfl (op_store_ rfl rfl rfl rfl rfl sz_50 ?_)
         refine AL.b ?_
         refine AL.ra ?_
         refine AL.nil ?_
         change AW _ _ _ _ _
         refine AW.ret ?_
         change ResA _ _ _ _ _
         refine res2 rfl (ResV.cells rfl rfl ag_50 (Nat.le_of_ble_eq_true rfl) rfl) rfl (ResV.tmp rfl) rfl ?_
         simp_all [partsL, zL, LensD.cs, csS]
        ·skip
         refine AW.seq ?_
         refine AW.seq ?_
         refine AW.region ?_
         refine AL.r (rd_bin rfl rfl rfl (fun _ => rfl)) ?_
         refine AL.ra ?_
         refine AL.nil ?_
         change AW _ _ _ _ _
         refine AW.cd rfl (fun h46 => ?_) (fun h46 => ?_)
         ·skip
          refine AW.skip ?_
          change AW _ _ _ _ _
          refine AW.cd rfl (fun h46 => ?_) (fun h46 => ?_)
          ·skip
           refine AW.drawX 2 (by kernel_rfl) ?_
           refine ADX.r 0 rfl (rdX_faddr_bx rfl fo_50_1 rfl rfl ⟨_, _, rfl⟩) rfl ?_
           refine ADX.r 1 rfl (rdX_loadN_bx rfl ag_44 rfl rfl (Nat.le_of_ble_eq_true rfl) rfl) rfl ?_
           refine ADX.r 2 rfl (rdX_faddr_bx rfl fo_50_3 rfl rfl ⟨_, _, rfl⟩) rfl ?_
           refine ADX.r 3 rfl (rdX_load_bx rfl ag_9 rfl rfl rfl) rfl ?_
           refine ADX.r 4 rfl (rdX_faddr_bx rfl fo_50_1 rfl rfl ⟨_, _, rfl⟩) rfl ?_
           refine ADX.stor 5 rfl (by kernel_rfl) rfl rfl rfl rfl rfl rfl sz_44 ?_
           refine ADX.n ?_
           refine ADX.r 6 rfl (rdX_faddr_bx rfl fo_50_3 rfl rfl ⟨_, _, rfl⟩) rfl ?_
           refine ADX.stor 7 rfl (by kernel_rfl) rfl rfl rfl rfl rfl rfl sz_9 ?_
           refine ADX.n ?_
           refine ADX.done (by kernel_rfl) ?_
           change AW _ _ _ _ _
           refine AW.seq ?_
           refine AW.region ?_
           refine AL.r (rd_loadN_bx rfl ag_50 rfl rfl (Nat.le_of_ble_eq_true rfl) rfl) ?_
           refine AL.op rfl (op_store_ rfl rfl rfl rfl rfl sz_50 ?_)
           refine AL.b ?_
           refine AL.ra ?_
           refine AL.nil ?_
           change AW _ _ _ _ _
           refine AW.ret ?_
           change ResA _ _ _ _ _
           refine res2 rfl (ResV.cells rfl rfl ag_50 (Nat.le_of_ble_eq_true rfl) rfl) rfl (ResV.tmp rfl) rfl ?_
           simp_all [partsL, zL, LensD.cs, csS]
          ·skip
           refine AW.seq ?_
           refine AW.region ?_
           refine AL.r (rd_bin rfl rfl rfl (fun _ => rfl)) ?_
           refine AL.ra ?_
           refine AL.nil ?_
           change AW _ _ _ _ _
           refine AW.cd rfl (fun h55 => ?_) (fun h55 => ?_)
           ·skip
            refine AW.seq ?_
            refine AW.drawX 2 (by kernel_rfl) ?_
            refine ADX.r 0 rfl (rdX_faddr_bx rfl fo_50_1 rfl rfl ⟨_, _, rfl⟩) rfl ?_
            refine ADX.r 1 rfl (rdX_loadN_bx rfl ag_44 rfl rfl (Nat.le_of_ble_eq_true rfl) rfl) rfl ?_
            refine ADX.r 2 rfl (rdX_faddr_bx rfl fo_50_2 rfl rfl ⟨_, _, rfl⟩) rfl ?_
            refine ADX.r 3 rfl (rdX_load_bx rfl ag_9 rfl rfl rfl) rfl ?_
            refine ADX.r 4 rfl (rdX_faddr_bx rfl fo_50_3 rfl rfl ⟨_, _, rfl⟩) rfl ?_
            refine ADX.r 5 rfl (rdX_load_bx rfl ag_9 rfl rfl rfl) rfl ?_
            refine ADX.r 6 rfl (rdX_faddr_bx rfl fo_50_1 rfl rfl ⟨_, _, rfl⟩) rfl ?_
            refine ADX.stor 7 rfl (by kernel_rfl) rfl rfl rfl rfl rfl rfl sz_44 ?_
            refine ADX.n ?_
            refine ADX.r 8 rfl (rdX_faddr_bx rfl fo_50_2 rfl rfl ⟨_, _, rfl⟩) rfl ?_
            refine ADX.stor 9 rfl (by kernel_rfl) rfl rfl rfl rfl rfl rfl sz_9 ?_
            refine ADX.n ?_
            refine ADX.r 10 rfl (rdX_faddr_bx rfl fo_50_3 rfl rfl ⟨_, _, rfl⟩) rfl ?_
            refine ADX.stor 11 rfl (by kernel_rfl) rfl rfl rfl rfl rfl rfl sz_9 ?_
            refine ADX.n ?_
            refine ADX.done (by kernel_rfl) ?_
            change AW _ _ _ _ _
            refine AW.drawX 2 (by kernel_rfl) ?_
            refine ADX.r 0 rfl (rdX_faddr_bx rfl fo_50_6 rfl rfl ⟨_, _, rfl⟩) rfl ?_
            refine ADX.r 1 rfl (rdX_load_bx rfl ag_48 rfl rfl rfl) rfl ?_
            refine ADX.r 2 rfl (rdX_faddr_bx rfl fo_50_7 rfl rfl ⟨_, _, rfl⟩) rfl ?_
            refine ADX.r 3 rfl (rdX_load_bx rfl ag_48 rfl rfl rfl) rfl ?_
            refine ADX.r 4 rfl (rdX_faddr_bx rfl fo_50_6 rfl rfl ⟨_, _, rfl⟩) rfl ?_
            refine ADX.stor 5 rfl (by kernel_rfl) rfl rfl rfl rfl rfl rfl sz_48 ?_
            refine ADX.n ?_
            refine ADX.r 6 rfl (rdX_faddr_bx rfl fo_50_7 rfl rfl ⟨_, _, rfl⟩) rfl ?_
            refine ADX.stor 7 rfl (by kernel_rfl) rfl rfl rfl rfl rfl rfl sz_48 ?_
            refine ADX.n ?_
            refine ADX.done (by kernel_rfl) ?_
            change AW _ _ _ _ _
            refine AW.seq ?_
            refine AW.region ?_
            refine AL.r (rd_loadN_bx rfl ag_50 rfl rfl (Nat.le_of_ble_eq_true rfl) rfl) ?_
            refine AL.op rfl (op_store_ rfl rfl rfl rfl rfl sz_50 ?_)
            refine AL.b ?_
            refine AL.ra ?_
            refine AL.nil ?_
            change AW _ _ _ _ _
            refine AW.ret ?_
            change ResA _ _ _ _ _
            refine res2 rfl (ResV.cells rfl rfl ag_50 (Nat.le_of_ble_eq_true rfl) rfl) rfl (ResV.tmp rfl) rfl ?_
            simp_all [partsL, zL, LensD.cs, csS]
           ·skip
            refine AW.seq ?_
            refine AW.region ?_
            refine AL.r (rd_build rfl pl_50 ze_50 rfl rfl) ?_
            refine AL.op rfl (op_store_ rfl rfl rfl rfl rfl sz_50 ?_)
            refine AL.b ?_
            refine AL.ra ?_
            refine AL.nil ?_
            change AW _ _ _ _ _
            refine AW.ret ?_
            change ResA _ _ _ _ _
            refine res2 rfl (ResV.cells rfl rfl ag_50 (Nat.le_of_ble_eq_true rfl) rfl) rfl (ResV.tmp rfl) rfl ?_
            simp_all [partsL, zL, LensD.cs, csS]
         ·skip
          refine AW.region ?_
          refine AL.r (rd_bin rfl rfl rfl (fun _ => rfl)) ?_
          refine AL.ra ?_
          refine AL.nil ?_
          change AW _ _ _ _ _
          refine AW.cd rfl (fun h46 => ?_) (fun h46 => ?_)
          ·skip
           refine AW.drawX 2 (by kernel_rfl) ?_
           refine ADX.r 0 rfl (rdX_faddr_bx rfl fo_50_1 rfl rfl ⟨_, _, rfl⟩) rfl ?_
           refine ADX.r 1 rfl (rdX_loadN_bx rfl ag_44 rfl rfl (Nat.le_of_ble_eq_true rfl) rfl) rfl ?_
           refine ADX.r 2 rfl (rdX_faddr_bx rfl fo_50_3 rfl rfl ⟨_, _, rfl⟩) rfl ?_
           refine ADX.r 3 rfl (rdX_load_bx rfl ag_9 rfl rfl rfl) rfl ?_
           refine ADX.r 4 rfl (rdX_faddr_bx rfl fo_50_1 rfl rfl ⟨_, _, rfl⟩) rfl ?_
           refine ADX.stor 5 rfl (by kernel_rfl) rfl rfl rfl rfl rfl rfl sz_44 ?_
           refine ADX.n ?_
           refine ADX.r 6 rfl (rdX_faddr_bx rfl fo_50_3 rfl rfl ⟨_, _, rfl⟩) rfl ?_
           refine ADX.stor 7 rfl (by kernel_rfl) rfl rfl rfl rfl rfl rfl sz_9 ?_
           refine ADX.n ?_
           refine ADX.done (by kernel_rfl) ?_
           change AW _ _ _ _ _
           refine AW.seq ?_
           refine AW.region ?_
           refine AL.r (rd_loadN_bx rfl ag_50 rfl rfl (Nat.le_of_ble_eq_true rfl) rfl) ?_
           refine AL.op rfl (op_store_ rfl rfl rfl rfl rfl sz_50 ?_)
           refine AL.b ?_
           refine AL.ra ?_
           refine AL.nil ?_
           change AW _ _ _ _ _
           refine AW.ret ?_
           change ResA _ _ _ _ _
           refine res2 rfl (ResV.cells rfl rfl ag_50 (Nat.le_of_ble_eq_true rfl) rfl) rfl (ResV.tmp rfl) rfl ?_
           simp_all [partsL, zL, LensD.cs, csS]
          ·skip
           refine AW.seq ?_
           refine AW.region ?_
           refine AL.r (rd_bin rfl rfl rfl (fun _ => rfl)) ?_
           refine AL.ra ?_
           refine AL.nil ?_
           change AW _ _ _ _ _
           refine AW.cd rfl (fun h55 => ?_) (fun h55 => ?_)
           ·skip
            refine AW.seq ?_
            refine AW.drawX 2 (by kernel_rfl) ?_
            refine ADX.r 0 rfl (rdX_faddr_bx rfl fo_50_1 rfl rfl ⟨_, _, rfl⟩) rfl ?_
            refine ADX.r 1 rfl (rdX_loadN_bx rfl ag_44 rfl rfl (Nat.le_of_ble_eq_true rfl) rfl) rfl ?_
            refine ADX.r 2 rfl (rdX_faddr_bx rfl fo_50_2 rfl rfl ⟨_, _, rfl⟩) rfl ?_
            refine ADX.r 3 rfl (rdX_load_bx rfl ag_9 rfl rfl rfl) rfl ?_
            refine ADX.r 4 rfl (rdX_faddr_bx rfl fo_50_3 rfl rfl ⟨_, _, rfl⟩) rfl ?_
            refine ADX.r 5 rfl (rdX_load_bx rfl ag_9 rfl rfl rfl) rfl ?_
            refine ADX.r 6 rfl (rdX_faddr_bx rfl fo_50_1 rfl rfl ⟨_, _, rfl⟩) rfl ?_
            refine ADX.stor 7 rfl (by kernel_rfl) rfl rfl rfl rfl rfl rfl sz_44 ?_
            refine ADX.n ?_
            refine ADX.r 8 rfl (rdX_faddr_bx rfl fo_50_2 rfl rfl ⟨_, _, rfl⟩) rfl ?_
            refine ADX.stor 9 rfl (by kernel_rfl) rfl rfl rfl rfl rfl rfl sz_9 ?_
            refine ADX.n ?_
            refine ADX.r 10 rfl (rdX_faddr_bx rfl fo_50_3 rfl rfl ⟨_, _, rfl⟩) rfl ?_
            refine ADX.stor 11 rfl (by kernel_rfl) rfl rfl rfl rfl rfl rfl sz_9 ?_
            refine ADX.n ?_
            refine ADX.done (by kernel_rfl) ?_
            change AW _ _ _ _ _
            refine AW.drawX 2 (by kernel_rfl) ?_
            refine ADX.r 0 rfl (rdX_faddr_bx rfl fo_50_6 rfl rfl ⟨_, _, rfl⟩) rfl ?_
            refine ADX.r 1 rfl (rdX_load_bx rfl ag_48 rfl rfl rfl) rfl ?_
            refine ADX.r 2 rfl (rdX_faddr_bx rfl fo_50_7 rfl rfl ⟨_, _, rfl⟩) rfl ?_
            refine ADX.r 3 rfl (rdX_load_bx rfl ag_48 rfl rfl rfl) rfl ?_
            refine ADX.r 4 rfl (rdX_faddr_bx rfl fo_50_6 rfl rfl ⟨_, _, rfl⟩) rfl ?_
            refine ADX.stor 5 rfl (by kernel_rfl) rfl rfl rfl rfl rfl rfl sz_48 ?_
            refine ADX.n ?_
            refine ADX.r 6 rfl (rdX_faddr_bx rfl fo_50_7 rfl rfl ⟨_, _, rfl⟩) rfl ?_
            refine ADX.stor 7 rfl (by kernel_rfl) rfl rfl rfl rfl rfl rfl sz_48 ?_
            refine ADX.n ?_
            refine ADX.done (by kernel_rfl) ?_
            change AW _ _ _ _ _
            refine AW.seq ?_
            refine AW.region ?_
            refine AL.r (rd_loadN_bx rfl ag_50 rfl rfl (Nat.le_of_ble_eq_true rfl) rfl) ?_
            refine AL.op rfl (op_store_ rfl rfl rfl rfl rfl sz_50 ?_)
            refine AL.b ?_
            refine AL.ra ?_
            refine AL.nil ?_
            change AW _ _ _ _ _
            refine AW.ret ?_
            change ResA _ _ _ _ _
            refine res2 rfl (ResV.cells rfl rfl ag_50 (Nat.le_of_ble_eq_true rfl) rfl) rfl (ResV.tmp rfl) rfl ?_
            simp_all [partsL, zL, LensD.cs, csS]
           ·skip
            refine AW.seq ?_
            refine AW.region ?_
            refine AL.r (rd_build rfl pl_50 ze_50 rfl rfl) ?_
            refine AL.op rfl (op_store_ rfl rfl rfl rfl rfl sz_50 ?_)
            refine AL.b ?_
            refine AL.ra ?_
            refine AL.nil ?_
            change AW _ _ _ _ _
            refine AW.ret ?_
            change ResA _ _ _ _ _
            refine res2 rfl (ResV.cells rfl rfl ag_50 (Nat.le_of_ble_eq_true rfl) rfl) rfl (ResV.tmp rfl) rfl ?_
            simp_all [partsL, zL, LensD.cs, csS]
       ·skip
        refine AW.region ?_
        refine AL.r (rd_bin rfl rfl rfl (fun _ => rfl)) ?_
        refine AL.ra ?_
        refine AL.nil ?_
        change AW _ _ _ _ _
        refine AW.cd rfl (fun h31 => ?_) (fun h31 => ?_)
        ·skip
         refine AW.drawX 2 (by kernel_rfl) ?_
         refine ADX.r 0 rfl (rdX_faddr_bx rfl fo_50_1 rfl rfl ⟨_, _, rfl⟩) rfl ?_
         refine ADX.r 1 rfl (rdX_loadN_bx rfl ag_44 rfl rfl (Nat.le_of_ble_eq_true rfl) rfl) rfl ?_
         refine ADX.r 2 rfl (rdX_faddr_bx rfl fo_50_2 rfl rfl ⟨_, _, rfl⟩) rfl ?_
         refine ADX.r 3 rfl (rdX_load_bx rfl ag_9 rfl rfl rfl) rfl ?_
         refine ADX.r 4 rfl (rdX_faddr_bx rfl fo_50_3 rfl rfl ⟨_, _, rfl⟩) rfl ?_
         refine ADX.r 5 rfl (rdX_load_bx rfl ag_9 rfl rfl rfl) rfl ?_
         refine ADX.r 6 rfl (rdX_faddr_bx rfl fo_50_4 rfl rfl ⟨_, _, rfl⟩) rfl ?_
         refine ADX.r 7 rfl (rdX_load_bx rfl ag_2 rfl rfl rfl) rfl ?_
         refine ADX.r 8 rfl (rdX_faddr_bx rfl fo_50_1 rfl rfl ⟨_, _, rfl⟩) rfl ?_
         refine ADX.stor 9 rfl (by kernel_rfl) rfl rfl rfl rfl rfl rfl sz_44 ?_
         refine ADX.n ?_
         refine ADX.r 10 rfl (rdX_faddr_bx rfl fo_50_2 rfl rfl ⟨_, _, rfl⟩) rfl ?_
         refine ADX.stor 11 rfl (by kernel_rfl) rfl rfl rfl rfl rfl rfl sz_9 ?_
         refine ADX.n ?_
         refine ADX.r 12 rfl (rdX_faddr_bx rfl fo_50_3 rfl rfl ⟨_, _, rfl⟩) rfl ?_
         refine ADX.stor 13 rfl (by kernel_rfl) rfl rfl rfl rfl rfl rfl sz_9 ?_
         refine ADX.n ?_
         refine ADX.r 14 rfl (rdX_faddr_bx rfl fo_50_4 rfl rfl ⟨_, _, rfl⟩) rfl ?_
         refine ADX.stor 15 rfl (by kernel_rfl) rfl rfl rfl rfl rfl rfl sz_2 ?_
         refine ADX.n ?_
         refine ADX.done (by kernel_rfl) ?_
         change AW _ _ _ _ _
         refine AW.seq ?_
         refine AW.region ?_
         refine AL.r (rd_loadN_bx rfl ag_50 rfl rfl (Nat.le_of_ble_eq_true rfl) rfl) ?_
         refine AL.op rfl (op_store_ rfl rfl rfl rfl rfl sz_50 ?_)
         refine AL.b ?_
         refine AL.ra ?_
         refine AL.nil ?_
         change AW _ _ _ _ _
         refine AW.ret ?_
         change ResA _ _ _ _ _
         refine res2 rfl (ResV.cells rfl rfl ag_50 (Nat.le_of_ble_eq_true rfl) rfl) rfl (ResV.tmp rfl) rfl ?_
         simp_all [partsL, zL, LensD.cs, csS]
        ·skip
         refine AW.seq ?_
         refine AW.seq ?_
         refine AW.region ?_
         refine AL.r (rd_bin rfl rfl rfl (fun _ => rfl)) ?_
         refine AL.ra ?_
         refine AL.nil ?_
         change AW _ _ _ _ _
         refine AW.cd rfl (fun h46 => ?_) (fun h46 => ?_)
         ·skip
          refine AW.skip ?_
          change AW _ _ _ _ _
          refine AW.cd rfl (fun h46 => ?_) (fun h46 => ?_)
          ·skip
           refine AW.drawX 2 (by kernel_rfl) ?_
           refine ADX.r 0 rfl (rdX_faddr_bx rfl fo_50_1 rfl rfl ⟨_, _, rfl⟩) rfl ?_
           refine ADX.r 1 rfl (rdX_loadN_bx rfl ag_44 rfl rfl (Nat.le_of_ble_eq_true rfl) rfl) rfl ?_
           refine ADX.r 2 rfl (rdX_faddr_bx rfl fo_50_3 rfl rfl ⟨_, _, rfl⟩) rfl ?_
           refine ADX.r 3 rfl (rdX_load_bx rfl ag_9 rfl rfl rfl) rfl ?_
           refine ADX.r 4 rfl (rdX_faddr_bx rfl fo_50_1 rfl rfl ⟨_, _, rfl⟩) rfl ?_
           refine ADX.stor 5 rfl (by kernel_rfl) rfl rfl rfl rfl rfl rfl sz_44 ?_
           refine ADX.n ?_
           refine ADX.r 6 rfl (rdX_faddr_bx rfl fo_50_3 rfl rfl ⟨_, _, rfl⟩) rfl ?_
           refine ADX.stor 7 rfl (by kernel_rfl) rfl rfl rfl rfl rfl rfl sz_9 ?_
           refine ADX.n ?_
           refine ADX.done (by kernel_rfl) ?_
           change AW _ _ _ _ _
           refine AW.seq ?_
           refine AW.region ?_
           refine AL.r (rd_loadN_bx rfl ag_50 rfl rfl (Nat.le_of_ble_eq_true rfl) rfl) ?_
           refine AL.op rfl (op_store_ rfl rfl rfl rfl rfl sz_50 ?_)
           refine AL.b ?_
           refine AL.ra ?_
           refine AL.nil ?_
           change AW _ _ _ _ _
           refine AW.ret ?_
           change ResA _ _ _ _ _
           refine res2 rfl (ResV.cells rfl rfl ag_50 (Nat.le_of_ble_eq_true rfl) rfl) rfl (ResV.tmp rfl) rfl ?_
           simp_all [partsL, zL, LensD.cs, csS]
          ·skip
           refine AW.seq ?_
           refine AW.region ?_
           refine AL.r (rd_bin rfl rfl rfl (fun _ => rfl)) ?_
           refine AL.ra ?_
           refine AL.nil ?_
           change AW _ _ _ _ _
           refine AW.cd rfl (fun h55 => ?_) (fun h55 => ?_)
           ·skip
            refine AW.seq ?_
            refine AW.drawX 2 (by kernel_rfl) ?_
            refine ADX.r 0 rfl (rdX_faddr_bx rfl fo_50_1 rfl rfl ⟨_, _, rfl⟩) rfl ?_
            refine ADX.r 1 rfl (rdX_loadN_bx rfl ag_44 rfl rfl (Nat.le_of_ble_eq_true rfl) rfl) rfl ?_
            refine ADX.r 2 rfl (rdX_faddr_bx rfl fo_50_2 rfl rfl ⟨_, _, rfl⟩) rfl ?_
            refine ADX.r 3 rfl (rdX_load_bx rfl ag_9 rfl rfl rfl) rfl ?_
            refine ADX.r 4 rfl (rdX_faddr_bx rfl fo_50_3 rfl rfl ⟨_, _, rfl⟩) rfl ?_
            refine ADX.r 5 rfl (rdX_load_bx rfl ag_9 rfl rfl rfl) rfl ?_
            refine ADX.r 6 rfl (rdX_faddr_bx rfl fo_50_1 rfl rfl ⟨_, _, rfl⟩) rfl ?_
            refine ADX.stor 7 rfl (by kernel_rfl) rfl rfl rfl rfl rfl rfl sz_44 ?_
            refine ADX.n ?_
            refine ADX.r 8 rfl (rdX_faddr_bx rfl fo_50_2 rfl rfl ⟨_, _, rfl⟩) rfl ?_
            refine ADX.stor 9 rfl (by kernel_rfl) rfl rfl rfl rfl rfl rfl sz_9 ?_
            refine ADX.n ?_
            refine ADX.r 10 rfl (rdX_faddr_bx rfl fo_50_3 rfl rfl ⟨_, _, rfl⟩) rfl ?_
            refine ADX.stor 11 rfl (by kernel_rfl) rfl rfl rfl rfl rfl rfl sz_9 ?_
            refine ADX.n ?_
            refine ADX.done (by kernel_rfl) ?_
            change AW _ _ _ _ _
            refine AW.drawX 2 (by kernel_rfl) ?_
            refine ADX.r 0 rfl (rdX_faddr_bx rfl fo_50_6 rfl rfl ⟨_, _, rfl⟩) rfl ?_
            refine ADX.r 1 rfl (rdX_load_bx rfl ag_48 rfl rfl rfl) rfl ?_
            refine ADX.r 2 rfl (rdX_faddr_bx rfl fo_50_7 rfl rfl ⟨_, _, rfl⟩) rfl ?_
            refine ADX.r 3 rfl (rdX_load_bx rfl ag_48 rfl rfl rfl) rfl ?_
            refine ADX.r 4 rfl (rdX_faddr_bx rfl fo_50_6 rfl rfl ⟨_, _, rfl⟩) rfl ?_
            refine ADX.stor 5 rfl (by kernel_rfl) rfl rfl rfl rfl rfl rfl sz_48 ?_
            refine ADX.n ?_
            refine ADX.r 6 rfl (rdX_faddr_bx rfl fo_50_7 rfl rfl ⟨_, _, rfl⟩) rfl ?_
            refine ADX.stor 7 rfl (by kernel_rfl) rfl rfl rfl rfl rfl rfl sz_48 ?_
            refine ADX.n ?_
            refine ADX.done (by kernel_rfl) ?_
            change AW _ _ _ _ _
            refine AW.seq ?_
            refine AW.region ?_
            refine AL.r (rd_loadN_bx rfl ag_50 rfl rfl (Nat.le_of_ble_eq_true rfl) rfl) ?_
            refine AL.op rfl (op_store_ rfl rfl rfl rfl rfl sz_50 ?_)
            refine AL.b ?_
            refine AL.ra ?_
            refine AL.nil ?_
            change AW _ _ _ _ _
            refine AW.ret ?_
            change ResA _ _ _ _ _
            refine res2 rfl (ResV.cells rfl rfl ag_50 (Nat.le_of_ble_eq_true rfl) rfl) rfl (ResV.tmp rfl) rfl ?_
            simp_all [partsL, zL, LensD.cs, csS]
           ·skip
            refine AW.seq ?_
            refine AW.region ?_
            refine AL.r (rd_build rfl pl_50 ze_50 rfl rfl) ?_
            refine AL.op rfl (op_store_ rfl rfl rfl rfl rfl sz_50 ?_)
            refine AL.b ?_
            refine AL.ra ?_
            refine AL.nil ?_
            change AW _ _ _ _ _
            refine AW.ret ?_
            change ResA _ _ _ _ _
            refine res2 rfl (ResV.cells rfl rfl ag_50 (Nat.le_of_ble_eq_true rfl) rfl) rfl (ResV.tmp rfl) rfl ?_
            simp_all [partsL, zL, LensD.cs, csS]
         ·skip
          refine AW.region ?_
          refine AL.r (rd_bin rfl rfl rfl (fun _ => rfl)) ?_
          refine AL.ra ?_
          refine AL.nil ?_
          change AW _ _ _ _ _
          refine AW.cd rfl (fun h46 => ?_) (fun h46 => ?_)
          ·skip
           refine AW.drawX 2 (by kernel_rfl) ?_
           refine ADX.r 0 rfl (rdX_faddr_bx rfl fo_50_1 rfl rfl ⟨_, _, rfl⟩) rfl ?_
           refine ADX.r 1 rfl (rdX_loadN_bx rfl ag_44 rfl rfl (Nat.le_of_ble_eq_true rfl) rfl) rfl ?_
           refine ADX.r 2 rfl (rdX_faddr_bx rfl fo_50_3 rfl rfl ⟨_, _, rfl⟩) rfl ?_
           refine ADX.r 3 rfl (rdX_load_bx rfl ag_9 rfl rfl rfl) rfl ?_
           refine ADX.r 4 rfl (rdX_faddr_bx rfl fo_50_1 rfl rfl ⟨_, _, rfl⟩) rfl ?_
           refine ADX.stor 5 rfl (by kernel_rfl) rfl rfl rfl rfl rfl rfl sz_44 ?_
           refine ADX.n ?_
           refine ADX.r 6 rfl (rdX_faddr_bx rfl fo_50_3 rfl rfl ⟨_, _, rfl⟩) rfl ?_
           refine ADX.stor 7 rfl (by kernel_rfl) rfl rfl rfl rfl rfl rfl sz_9 ?_
           refine ADX.n ?_
           refine ADX.done (by kernel_rfl) ?_
           change AW _ _ _ _ _
           refine AW.seq ?_
           refine AW.region ?_
           refine AL.r (rd_loadN_bx rfl ag_50 rfl rfl (Nat.le_of_ble_eq_true rfl) rfl) ?_
           refine AL.op rfl (op_store_ rfl rfl rfl rfl rfl sz_50 ?_)
           refine AL.b ?_
           refine AL.ra ?_
           refine AL.nil ?_
           change AW _ _ _ _ _
           refine AW.ret ?_
           change ResA _ _ _ _ _
           refine res2 rfl (ResV.cells rfl rfl ag_50 (Nat.le_of_ble_eq_true rfl) rfl) rfl (ResV.tmp rfl) rfl ?_
           simp_all [partsL, zL, LensD.cs, csS]
          ·skip
           refine AW.seq ?_
           refine AW.region ?_
           refine AL.r (rd_bin rfl rfl rfl (fun _ => rfl)) ?_
           refine AL.ra ?_
           refine AL.nil ?_
           change AW _ _ _ _ _
           refine AW.cd rfl (fun h55 => ?_) (fun h55 => ?_)
           ·skip
            refine AW.seq ?_
            refine AW.drawX 2 (by kernel_rfl) ?_
            refine ADX.r 0 rfl (rdX_faddr_bx rfl fo_50_1 rfl rfl ⟨_, _, rfl⟩) rfl ?_
            refine ADX.r 1 rfl (rdX_loadN_bx rfl ag_44 rfl rfl (Nat.le_of_ble_eq_true rfl) rfl) rfl ?_
            refine ADX.r 2 rfl (rdX_faddr_bx rfl fo_50_2 rfl rfl ⟨_, _, rfl⟩) rfl ?_
            refine ADX.r 3 rfl (rdX_load_bx rfl ag_9 rfl rfl rfl) rfl ?_
            refine ADX.r 4 rfl (rdX_faddr_bx rfl fo_50_3 rfl rfl ⟨_, _, rfl⟩) rfl ?_
            refine ADX.r 5 rfl (rdX_load_bx rfl ag_9 rfl rfl rfl) rfl ?_
            refine ADX.r 6 rfl (rdX_faddr_bx rfl fo_50_1 rfl rfl ⟨_, _, rfl⟩) rfl ?_
            refine ADX.stor 7 rfl (by kernel_rfl) rfl rfl rfl rfl rfl rfl sz_44 ?_
            refine ADX.n ?_
            refine ADX.r 8 rfl (rdX_faddr_bx rfl fo_50_2 rfl rfl ⟨_, _, rfl⟩) rfl ?_
            refine ADX.stor 9 rfl (by kernel_rfl) rfl rfl rfl rfl rfl rfl sz_9 ?_
            refine ADX.n ?_
            refine ADX.r 10 rfl (rdX_faddr_bx rfl fo_50_3 rfl rfl ⟨_, _, rfl⟩) rfl ?_
            refine ADX.stor 11 rfl (by kernel_rfl) rfl rfl rfl rfl rfl rfl sz_9 ?_
            refine ADX.n ?_
            refine ADX.done (by kernel_rfl) ?_
            change AW _ _ _ _ _
            refine AW.drawX 2 (by kernel_rfl) ?_
            refine ADX.r 0 rfl (rdX_faddr_bx rfl fo_50_6 rfl rfl ⟨_, _, rfl⟩) rfl ?_
            refine ADX.r 1 rfl (rdX_load_bx rfl ag_48 rfl rfl rfl) rfl ?_
            refine ADX.r 2 rfl (rdX_faddr_bx rfl fo_50_7 rfl rfl ⟨_, _, rfl⟩) rfl ?_
            refine ADX.r 3 rfl (rdX_load_bx rfl ag_48 rfl rfl rfl) rfl ?_
            refine ADX.r 4 rfl (rdX_faddr_bx rfl fo_50_6 rfl rfl ⟨_, _, rfl⟩) rfl ?_
            refine ADX.stor 5 rfl (by kernel_rfl) rfl rfl rfl rfl rfl rfl sz_48 ?_
            refine ADX.n ?_
            refine ADX.r 6 rfl (rdX_faddr_bx rfl fo_50_7 rfl rfl ⟨_, _, rfl⟩) rfl ?_
            refine ADX.stor 7 rfl (by kernel_rfl) rfl rfl rfl rfl rfl rfl sz_48 ?_
            refine ADX.n ?_
            refine ADX.done (by kernel_rfl) ?_
            change AW _ _ _ _ _
            refine AW.seq ?_
            refine AW.region ?_
            refine AL.r (rd_loadN_bx rfl ag_50 rfl rfl (Nat.le_of_ble_eq_true rfl) rfl) ?_
            refine AL.op rfl (op_store_ rfl rfl rfl rfl rfl sz_50 ?_)
            refine AL.b ?_
            refine AL.ra ?_
            refine AL.nil ?_
            change AW _ _ _ _ _
            refine AW.ret ?_
            change ResA _ _ _ _ _
            refine res2 rfl (ResV.cells rfl rfl ag_50 (Nat.le_of_ble_eq_true rfl) rfl) rfl (ResV.tmp rfl) rfl ?_
            simp_all [partsL, zL, LensD.cs, csS]
           ·skip
            refine AW.seq ?_
            refine AW.region ?_
            refine AL.r (rd_build rfl pl_50 ze_50 rfl rfl) ?_
            refine AL.op rfl (op_store_ rfl rfl rfl rfl rfl sz_50 ?_)
            refine AL.b ?_
            refine AL.ra ?_
            refine AL.nil ?_
            change AW _ _ _ _ _
            refine AW.ret ?_
            change ResA _ _ _ _ _
            refine res2 rfl (ResV.cells rfl rfl ag_50 (Nat.le_of_ble_eq_true rfl) rfl) rfl (ResV.tmp rfl) rfl ?_
            simp_all [partsL, zL, LensD.cs, csS]
end Go.Proofs.Ytdgcbhihmnhnaaa
