/- The way back of a lens, walked over abstract states. -/
import Derived.Test.YtdgcbhihmnhnaaaLenJ
namespace Go.Proofs.Ytdgcbhihmnhnaaa
set_option linter.unusedSimpArgs false
set_option linter.unusedVariables false
set_option maxRecDepth 100000
set_option maxRecDepth 100000
open Go.RowKit

set_option maxHeartbeats 800000 in
theorem binv_c (x : LensD) (h : x.Small) : AC Try.prog 24 [x.av] (fun r => r = .s (.tu [(invP x).1.av, AI (invP x).2])) := by
  change AC _ _ [.ag [AI x.kind, AI x.at_.scope, AS x.at_.group, AS x.at_.name, AS x.name, AS x.other, AI x.factor, AI x.field.at_.scope, AS x.field.at_.group, AS x.field.at_.name, AI x.field.kind, AS x.field.dflt, .sl (csS x.field.cases), AI x.field.worth, .sl (x.forth.map PairD.cs), .sl (x.back.map PairD.cs)]] _
  refine AC.of' 72 3 Try.func24 rfl ?_
  change AW _ _ _ _ [TK.mk 0 .off, TK.mk 0 .off, TK.mk 0 .off]
  refine AW.seq ?_
  refine AW.region ?_
  refine AL.op rfl (AOpB.op (op_box 0 rfl rfl rfl rfl rfl ?_))
  refine AL.n ?_
  refine AL.op rfl (AOpB.op (op_alloc 1 rfl ze_50 rfl ?_))
  refine AL.n ?_
  refine AL.ra ?_
  refine AL.nil ?_
  change AW _ _ _ _ _
  refine AW.seq ?_
  refine AW.seq ?_
  refine AW.region ?_
  refine AL.r (rd_loadN_bx rfl ag_50 rfl rfl (Nat.le_of_ble_eq_true rfl) rfl) ?_
  refine AL.op rfl (AOpB.op (op_call (lright_c x) rfl (by kernel_rfl) rfl (none) ?_))
  rintro r rfl
  refine AL.n ?_
  refine AL.r (rd_un rfl rfl (fun _ => rfl)) ?_
  refine AL.nil ?_
  change AW _ _ _ _ _
  refine AW.cd rfl (fun h7 => ?_) (fun h7 => ?_)
  ·skip
   refine AW.seq ?_
   refine AW.region ?_
   refine AL.r (rd_build rfl pl_50 ze_50 rfl rfl) ?_
   refine AL.op rfl (op_store_ rfl rfl rfl rfl rfl sz_50 ?_)
   refine AL.b ?_
   refine AL.ra ?_
   refine AL.nil ?_
   change AW _ _ _ _ _
   refine AW.ret ?_
   change ResA _ _ _ _ _
   refine res2 rfl (ResV.cells rfl rfl ag_50 (Nat.le_of_ble_eq_true rfl) rfl) (by first | exact setA_sc rfl | rfl) (ResV.tmp rfl) rfl ?_
   rw [invP, if_neg (by simp_all)]; rfl
  ·skip
   refine AW.skip ?_
   change AW _ _ _ _ _
   refine AW.seq ?_
   refine AW.region ?_
   refine AL.r (rd_loadN_bx rfl ag_50 rfl rfl (Nat.le_of_ble_eq_true rfl) rfl) ?_
   refine AL.op rfl (AOpB.op (op_call (lown_c x h) rfl (by kernel_rfl) rfl (none) ?_))
   rintro r rfl
   refine AL.n ?_
   refine AL.op rfl (AOpB.op (op_alloc 2 rfl ze_50 rfl ?_))
   refine AL.n ?_
   refine AL.op rfl (op_store_ rfl rfl rfl rfl rfl sz_50 ?_)
   refine AL.b ?_
   refine AL.nil ?_
   change AW _ _ _ _ _
   refine AW.seq ?_
   refine AW.seq ?_
   refine AW.region ?_
   refine AL.r (rd_faddr_bx rfl fo_50_0 rfl rfl ⟨_, _, rfl⟩) ?_
   refine AL.r (rd_load_bx rfl ag_3 rfl rfl rfl) ?_
   refine AL.nil ?_
   change AW _ _ _ _ _
   refine AW.block ?_
   refine AW.seq ?_
   refine AW.region ?_
   refine AL.r (rd_bin rfl rfl rfl (fun _ => rfl)) ?_
   refine AL.ra ?_
   refine AL.nil ?_
   change AW _ _ _ _ _
   refine AW.cd rfl (fun h13 => ?_) (fun h13 => ?_)
   ·skip
    refine AW.drawX 2 (by kernel_rfl) ?_
    refine ADX.r 0 rfl (rdX_faddr_bx rfl fo_50_2 rfl rfl ⟨_, _, rfl⟩) rfl ?_
    refine ADX.r 1 rfl (rdX_load_bx rfl ag_9 rfl rfl rfl) rfl ?_
    refine ADX.r 2 rfl (rdX_faddr_bx rfl fo_50_1 rfl rfl ⟨_, _, rfl⟩) rfl ?_
    refine ADX.r 3 rfl (rdX_faddr_bx rfl fo_44_2 rfl rfl ⟨_, _, rfl⟩) rfl ?_
    refine ADX.r 4 rfl (rdX_load_bx rfl ag_9 rfl rfl rfl) rfl ?_
    refine ADX.r 5 rfl (rdX_faddr_bx rfl fo_50_1 rfl rfl ⟨_, _, rfl⟩) rfl ?_
    refine ADX.r 6 rfl (rdX_faddr_bx rfl fo_44_2 rfl rfl ⟨_, _, rfl⟩) rfl ?_
    refine ADX.stor 7 rfl (by kernel_rfl) rfl rfl rfl rfl rfl rfl sz_9 ?_
    refine ADX.n ?_
    refine ADX.r 8 rfl (rdX_faddr_bx rfl fo_50_2 rfl rfl ⟨_, _, rfl⟩) rfl ?_
    refine ADX.stor 9 rfl (by kernel_rfl) rfl rfl rfl rfl rfl rfl sz_9 ?_
    refine ADX.n ?_
    refine ADX.done (by kernel_rfl) ?_
    change AW _ _ _ _ _
    refine AW.seq ?_
    refine AW.region ?_
    refine AL.r (rd_loadN_bx rfl ag_50 rfl rfl (Nat.le_of_ble_eq_true rfl) rfl) ?_
    refine AL.op rfl (op_store_ rfl rfl rfl rfl rfl sz_50 ?_)
    refine AL.b ?_
    refine AL.ra ?_
    refine AL.nil ?_
    change AW _ _ _ _ _
    refine AW.ret ?_
    change ResA _ _ _ _ _
    refine res2 rfl (ResV.cells rfl rfl ag_50 (Nat.le_of_ble_eq_true rfl) rfl) (by first | exact setA_sc rfl | rfl) (ResV.tmp rfl) rfl ?_
    rw [invP, if_pos (by assumption)]; simp_all [invL, LensD.cs, FldD.cs]
   ·skip
    refine AW.seq ?_
    refine AW.region ?_
    refine AL.r (rd_bin rfl rfl rfl (fun _ => rfl)) ?_
    refine AL.ra ?_
    refine AL.nil ?_
    change AW _ _ _ _ _
    refine AW.cd rfl (fun h23 => ?_) (fun h23 => ?_)
    ·skip
     refine AW.region ?_
     refine AL.r (rd_faddr_bx rfl fo_50_0 rfl rfl ⟨_, _, rfl⟩) ?_
     refine AL.op rfl (op_store_ rfl rfl rfl rfl rfl sz_3 ?_)
     refine AL.b ?_
     refine AL.nil ?_
     change AW _ _ _ _ _
     refine AW.seq ?_
     refine AW.region ?_
     refine AL.r (rd_loadN_bx rfl ag_50 rfl rfl (Nat.le_of_ble_eq_true rfl) rfl) ?_
     refine AL.op rfl (op_store_ rfl rfl rfl rfl rfl sz_50 ?_)
     refine AL.b ?_
     refine AL.ra ?_
     refine AL.nil ?_
     change AW _ _ _ _ _
     refine AW.ret ?_
     change ResA _ _ _ _ _
     refine res2 rfl (ResV.cells rfl rfl ag_50 (Nat.le_of_ble_eq_true rfl) rfl) (by first | exact setA_sc rfl | rfl) (ResV.tmp rfl) rfl ?_
     rw [invP, if_pos (by assumption)]; simp_all [invL, LensD.cs, FldD.cs]
    ·skip
     refine AW.seq ?_
     refine AW.region ?_
     refine AL.r (rd_bin rfl rfl rfl (fun _ => rfl)) ?_
     refine AL.ra ?_
     refine AL.nil ?_
     change AW _ _ _ _ _
     refine AW.cd rfl (fun h26 => ?_) (fun h26 => ?_)
     ·skip
      refine AW.region ?_
      refine AL.r (rd_faddr_bx rfl fo_50_0 rfl rfl ⟨_, _, rfl⟩) ?_
      refine AL.op rfl (op_store_ rfl rfl rfl rfl rfl sz_3 ?_)
      refine AL.b ?_
      refine AL.nil ?_
      change AW _ _ _ _ _
      refine AW.seq ?_
      refine AW.region ?_
      refine AL.r (rd_loadN_bx rfl ag_50 rfl rfl (Nat.le_of_ble_eq_true rfl) rfl) ?_
      refine AL.op rfl (op_store_ rfl rfl rfl rfl rfl sz_50 ?_)
      refine AL.b ?_
      refine AL.ra ?_
      refine AL.nil ?_
      change AW _ _ _ _ _
      refine AW.ret ?_
      change ResA _ _ _ _ _
      refine res2 rfl (ResV.cells rfl rfl ag_50 (Nat.le_of_ble_eq_true rfl) rfl) (by first | exact setA_sc rfl | rfl) (ResV.tmp rfl) rfl ?_
      rw [invP, if_pos (by assumption)]; simp_all [invL, LensD.cs, FldD.cs]
     ·skip
      refine AW.seq ?_
      refine AW.region ?_
      refine AL.r (rd_bin rfl rfl rfl (fun _ => rfl)) ?_
      refine AL.ra ?_
      refine AL.nil ?_
      change AW _ _ _ _ _
      refine AW.cd rfl (fun h29 => ?_) (fun h29 => ?_)
      ·skip
       refine AW.seq ?_
       refine AW.region ?_
       refine AL.r (rd_faddr_bx rfl fo_50_0 rfl rfl ⟨_, _, rfl⟩) ?_
       refine AL.op rfl (op_store_ rfl rfl rfl rfl rfl sz_3 ?_)
       refine AL.b ?_
       refine AL.nil ?_
       change AW _ _ _ _ _
       refine AW.drawX 2 (by kernel_rfl) ?_
       refine ADX.r 0 rfl (rdX_faddr_bx rfl fo_50_1 rfl rfl ⟨_, _, rfl⟩) rfl ?_
       refine ADX.r 1 rfl (rdX_faddr_bx rfl fo_44_1 rfl rfl ⟨_, _, rfl⟩) rfl ?_
       refine ADX.r 2 rfl (rdX_load_bx rfl ag_9 rfl rfl rfl) rfl ?_
       refine ADX.r 3 rfl (rdX_faddr_bx rfl fo_50_1 rfl rfl ⟨_, _, rfl⟩) rfl ?_
       refine ADX.r 4 rfl (rdX_faddr_bx rfl fo_44_1 rfl rfl ⟨_, _, rfl⟩) rfl ?_
       refine ADX.stor 5 rfl (by kernel_rfl) rfl rfl rfl rfl rfl rfl sz_9 ?_
       refine ADX.n ?_
       refine ADX.r 6 rfl (rdX_faddr_bx rfl fo_50_2 rfl rfl ⟨_, _, rfl⟩) rfl ?_
       refine ADX.stor 7 rfl (by kernel_rfl) rfl rfl rfl rfl rfl rfl sz_9 ?_
       refine ADX.n ?_
       refine ADX.done (by kernel_rfl) ?_
       change AW _ _ _ _ _
       refine AW.seq ?_
       refine AW.region ?_
       refine AL.r (rd_loadN_bx rfl ag_50 rfl rfl (Nat.le_of_ble_eq_true rfl) rfl) ?_
       refine AL.op rfl (op_store_ rfl rfl rfl rfl rfl sz_50 ?_)
       refine AL.b ?_
       refine AL.ra ?_
       refine AL.nil ?_
       change AW _ _ _ _ _
       refine AW.ret ?_
       change ResA _ _ _ _ _
       refine res2 rfl (ResV.cells rfl rfl ag_50 (Nat.le_of_ble_eq_true rfl) rfl) (by first | exact setA_sc rfl | rfl) (ResV.tmp rfl) rfl ?_
       rw [invP, if_pos (by assumption)]; simp_all [invL, LensD.cs, FldD.cs]
      ·skip
       refine AW.seq ?_
       refine AW.region ?_
       refine AL.r (rd_bin rfl rfl rfl (fun _ => rfl)) ?_
       refine AL.ra ?_
       refine AL.nil ?_
       change AW _ _ _ _ _
       refine AW.cd rfl (fun h38 => ?_) (fun h38 => ?_)
       ·skip
        refine AW.seq ?_
        refine AW.region ?_
        refine AL.r (rd_faddr_bx rfl fo_50_0 rfl rfl ⟨_, _, rfl⟩) ?_
        refine AL.op rfl (op_store_ rfl rfl rfl rfl rfl sz_3 ?_)
        refine AL.b ?_
        refine AL.nil ?_
        change AW _ _ _ _ _
        refine AW.region ?_
        refine AL.r (rd_faddr_bx rfl fo_50_2 rfl rfl ⟨_, _, rfl⟩) ?_
        refine AL.r (rd_load_bx rfl ag_9 rfl rfl rfl) ?_
        refine AL.r (rd_faddr_bx rfl fo_50_1 rfl rfl ⟨_, _, rfl⟩) ?_
        refine AL.r (rd_faddr_bx rfl fo_44_1 rfl rfl ⟨_, _, rfl⟩) ?_
        refine AL.op rfl (op_store_ rfl rfl rfl rfl rfl sz_9 ?_)
        refine AL.b ?_
        refine AL.r (rd_faddr_bx rfl fo_50_2 rfl rfl ⟨_, _, rfl⟩) ?_
        refine AL.op rfl (op_store_ rfl rfl rfl rfl rfl sz_9 ?_)
        refine AL.b ?_
        refine AL.nil ?_
        change AW _ _ _ _ _
        refine AW.seq ?_
        refine AW.region ?_
        refine AL.r (rd_loadN_bx rfl ag_50 rfl rfl (Nat.le_of_ble_eq_true rfl) rfl) ?_
        refine AL.op rfl (op_store_ rfl rfl rfl rfl rfl sz_50 ?_)
        refine AL.b ?_
        refine AL.ra ?_
        refine AL.nil ?_
        change AW _ _ _ _ _
        refine AW.ret ?_
        change ResA _ _ _ _ _
        refine res2 rfl (ResV.cells rfl rfl ag_50 (Nat.le_of_ble_eq_true rfl) rfl) (by first | exact setA_sc rfl | rfl) (ResV.tmp rfl) rfl ?_
        rw [invP, if_pos (by assumption)]; simp_all [invL, LensD.cs, FldD.cs]
       ·skip
        refine AW.seq ?_
        refine AW.region ?_
        refine AL.r (rd_bin rfl rfl rfl (fun _ => rfl)) ?_
        refine AL.ra ?_
        refine AL.nil ?_
        change AW _ _ _ _ _
        refine AW.cd rfl (fun h46 => ?_) (fun h46 => ?_)
        ·skip
         refine AW.region ?_
         refine AL.r (rd_faddr_bx rfl fo_50_0 rfl rfl ⟨_, _, rfl⟩) ?_
         refine AL.op rfl (op_store_ rfl rfl rfl rfl rfl sz_3 ?_)
         refine AL.b ?_
         refine AL.nil ?_
         change AW _ _ _ _ _
         refine AW.seq ?_
         refine AW.region ?_
         refine AL.r (rd_loadN_bx rfl ag_50 rfl rfl (Nat.le_of_ble_eq_true rfl) rfl) ?_
         refine AL.op rfl (op_store_ rfl rfl rfl rfl rfl sz_50 ?_)
         refine AL.b ?_
         refine AL.ra ?_
         refine AL.nil ?_
         change AW _ _ _ _ _
         refine AW.ret ?_
         change ResA _ _ _ _ _
         refine res2 rfl (ResV.cells rfl rfl ag_50 (Nat.le_of_ble_eq_true rfl) rfl) (by first | exact setA_sc rfl | rfl) (ResV.tmp rfl) rfl ?_
         rw [invP, if_pos (by assumption)]; simp_all [invL, LensD.cs, FldD.cs]
        ·skip
         refine AW.seq ?_
         refine AW.region ?_
         refine AL.r (rd_bin rfl rfl rfl (fun _ => rfl)) ?_
         refine AL.ra ?_
         refine AL.nil ?_
         change AW _ _ _ _ _
         refine AW.cd rfl (fun h49 => ?_) (fun h49 => ?_)
         ·skip
          refine AW.region ?_
          refine AL.r (rd_faddr_bx rfl fo_50_0 rfl rfl ⟨_, _, rfl⟩) ?_
          refine AL.op rfl (op_store_ rfl rfl rfl rfl rfl sz_3 ?_)
          refine AL.b ?_
          refine AL.nil ?_
          change AW _ _ _ _ _
          refine AW.seq ?_
          refine AW.region ?_
          refine AL.r (rd_loadN_bx rfl ag_50 rfl rfl (Nat.le_of_ble_eq_true rfl) rfl) ?_
          refine AL.op rfl (op_store_ rfl rfl rfl rfl rfl sz_50 ?_)
          refine AL.b ?_
          refine AL.ra ?_
          refine AL.nil ?_
          change AW _ _ _ _ _
          refine AW.ret ?_
          change ResA _ _ _ _ _
          refine res2 rfl (ResV.cells rfl rfl ag_50 (Nat.le_of_ble_eq_true rfl) rfl) (by first | exact setA_sc rfl | rfl) (ResV.tmp rfl) rfl ?_
          rw [invP, if_pos (by assumption)]; simp_all [invL, LensD.cs, FldD.cs]
         ·skip
          refine AW.seq ?_
          refine AW.region ?_
          refine AL.r (rd_bin rfl rfl rfl (fun _ => rfl)) ?_
          refine AL.ra ?_
          refine AL.nil ?_
          change AW _ _ _ _ _
          refine AW.cd rfl (fun h52 => ?_) (fun h52 => ?_)
          ·skip
           refine AW.region ?_
           refine AL.r (rd_faddr_bx rfl fo_50_0 rfl rfl ⟨_, _, rfl⟩) ?_
           refine AL.op rfl (op_store_ rfl rfl rfl rfl rfl sz_3 ?_)
           refine AL.b ?_
           refine AL.nil ?_
           change AW _ _ _ _ _
           refine AW.seq ?_
           refine AW.region ?_
           refine AL.r (rd_loadN_bx rfl ag_50 rfl rfl (Nat.le_of_ble_eq_true rfl) rfl) ?_
           refine AL.op rfl (op_store_ rfl rfl rfl rfl rfl sz_50 ?_)
           refine AL.b ?_
           refine AL.ra ?_
           refine AL.nil ?_
           change AW _ _ _ _ _
           refine AW.ret ?_
           change ResA _ _ _ _ _
           refine res2 rfl (ResV.cells rfl rfl ag_50 (Nat.le_of_ble_eq_true rfl) rfl) (by first | exact setA_sc rfl | rfl) (ResV.tmp rfl) rfl ?_
           rw [invP, if_pos (by assumption)]; simp_all [invL, LensD.cs, FldD.cs]
          ·skip
           refine AW.seq ?_
           refine AW.region ?_
           refine AL.r (rd_bin rfl rfl rfl (fun _ => rfl)) ?_
           refine AL.ra ?_
           refine AL.nil ?_
           change AW _ _ _ _ _
           refine AW.cd rfl (fun h55 => ?_) (fun h55 => ?_)
           ·skip
            refine AW.region ?_
            refine AL.r (rd_faddr_bx rfl fo_50_0 rfl rfl ⟨_, _, rfl⟩) ?_
            refine AL.op rfl (op_store_ rfl rfl rfl rfl rfl sz_3 ?_)
            refine AL.b ?_
            refine AL.nil ?_
            change AW _ _ _ _ _
            refine AW.seq ?_
            refine AW.region ?_
            refine AL.r (rd_loadN_bx rfl ag_50 rfl rfl (Nat.le_of_ble_eq_true rfl) rfl) ?_
            refine AL.op rfl (op_store_ rfl rfl rfl rfl rfl sz_50 ?_)
            refine AL.b ?_
            refine AL.ra ?_
            refine AL.nil ?_
            change AW _ _ _ _ _
            refine AW.ret ?_
            change ResA _ _ _ _ _
            refine res2 rfl (ResV.cells rfl rfl ag_50 (Nat.le_of_ble_eq_true rfl) rfl) (by first | exact setA_sc rfl | rfl) (ResV.tmp rfl) rfl ?_
            rw [invP, if_pos (by assumption)]; simp_all [invL, LensD.cs, FldD.cs]
           ·skip
            refine AW.seq ?_
            refine AW.region ?_
            refine AL.r (rd_bin rfl rfl rfl (fun _ => rfl)) ?_
            refine AL.ra ?_
            refine AL.nil ?_
            change AW _ _ _ _ _
            refine AW.cd rfl (fun h58 => ?_) (fun h58 => ?_)
            ·skip
             refine AW.seq ?_
             refine AW.drawX 2 (by kernel_rfl) ?_
             refine ADX.r 0 rfl (rdX_faddr_bx rfl fo_50_3 rfl rfl ⟨_, _, rfl⟩) rfl ?_
             refine ADX.r 1 rfl (rdX_load_bx rfl ag_9 rfl rfl rfl) rfl ?_
             refine ADX.r 2 rfl (rdX_faddr_bx rfl fo_50_2 rfl rfl ⟨_, _, rfl⟩) rfl ?_
             refine ADX.r 3 rfl (rdX_load_bx rfl ag_9 rfl rfl rfl) rfl ?_
             refine ADX.r 4 rfl (rdX_faddr_bx rfl fo_50_2 rfl rfl ⟨_, _, rfl⟩) rfl ?_
             refine ADX.stor 5 rfl (by kernel_rfl) rfl rfl rfl rfl rfl rfl sz_9 ?_
             refine ADX.n ?_
             refine ADX.r 6 rfl (rdX_faddr_bx rfl fo_50_3 rfl rfl ⟨_, _, rfl⟩) rfl ?_
             refine ADX.stor 7 rfl (by kernel_rfl) rfl rfl rfl rfl rfl rfl sz_9 ?_
             refine ADX.n ?_
             refine ADX.done (by kernel_rfl) ?_
             change AW _ _ _ _ _
             refine AW.region ?_
             refine AL.r (rd_faddr_bx rfl fo_50_7 rfl rfl ⟨_, _, rfl⟩) ?_
             refine AL.r (rd_load_bx rfl ag_48 rfl rfl rfl) ?_
             refine AL.r (rd_faddr_bx rfl fo_50_6 rfl rfl ⟨_, _, rfl⟩) ?_
             refine AL.r (rd_load_bx rfl ag_48 rfl rfl rfl) ?_
             refine AL.r (rd_faddr_bx rfl fo_50_6 rfl rfl ⟨_, _, rfl⟩) ?_
             refine AL.op rfl (op_store_ rfl rfl rfl rfl rfl sz_48 ?_)
             refine AL.b ?_
             refine AL.r (rd_faddr_bx rfl fo_50_7 rfl rfl ⟨_, _, rfl⟩) ?_
             refine AL.op rfl (op_store_ rfl rfl rfl rfl rfl sz_48 ?_)
             refine AL.b ?_
             refine AL.nil ?_
             change AW _ _ _ _ _
             refine AW.seq ?_
             refine AW.region ?_
             refine AL.r (rd_loadN_bx rfl ag_50 rfl rfl (Nat.le_of_ble_eq_true rfl) rfl) ?_
             refine AL.op rfl (op_store_ rfl rfl rfl rfl rfl sz_50 ?_)
             refine AL.b ?_
             refine AL.ra ?_
             refine AL.nil ?_
             change AW _ _ _ _ _
             refine AW.ret ?_
             change ResA _ _ _ _ _
             refine res2 rfl (ResV.cells rfl rfl ag_50 (Nat.le_of_ble_eq_true rfl) rfl) (by first | exact setA_sc rfl | rfl) (ResV.tmp rfl) rfl ?_
             rw [invP, if_pos (by assumption)]; simp_all [invL, LensD.cs, FldD.cs]
            ·skip
             refine AW.skip ?_
             change AW _ _ _ _ _
             refine AW.seq ?_
             refine AW.region ?_
             refine AL.r (rd_loadN_bx rfl ag_50 rfl rfl (Nat.le_of_ble_eq_true rfl) rfl) ?_
             refine AL.op rfl (op_store_ rfl rfl rfl rfl rfl sz_50 ?_)
             refine AL.b ?_
             refine AL.ra ?_
             refine AL.nil ?_
             change AW _ _ _ _ _
             refine AW.ret ?_
             change ResA _ _ _ _ _
             refine res2 rfl (ResV.cells rfl rfl ag_50 (Nat.le_of_ble_eq_true rfl) rfl) (by first | exact setA_sc rfl | rfl) (ResV.tmp rfl) rfl ?_
             rw [invP, if_pos (by assumption)]; simp_all [invL, LensD.cs, FldD.cs]
end Go.Proofs.Ytdgcbhihmnhnaaa
