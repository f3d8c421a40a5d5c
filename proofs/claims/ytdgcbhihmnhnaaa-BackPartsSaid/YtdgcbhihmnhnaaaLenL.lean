/- Lenses: whether one is right, the reference, walked over abstract states. -/
import Derived.Test.YtdgcbhihmnhnaaaLenJ
namespace Go.Proofs.Ytdgcbhihmnhnaaa
set_option linter.unusedSimpArgs false
set_option linter.unusedVariables false
set_option maxRecDepth 100000
set_option maxRecDepth 100000
open Go.RowKit

set_option maxHeartbeats 1000000 in
theorem rright15_c (x : LensD) (h : x.Small) : AC Try.prog 66 [x.av] (fun r => r = .s (AB (rightL x))) := by
  rw [← right_eq]
  have h1 := h.cases; have h2 := h.forth; have h3 := h.back
  change AC _ _ [.ag [AI x.kind, AI x.at_.scope, AS x.at_.group, AS x.at_.name, AS x.name, AS x.other, AI x.factor, AI x.field.at_.scope, AS x.field.at_.group, AS x.field.at_.name, AI x.field.kind, AS x.field.dflt, .sl (csS x.field.cases), AI x.field.worth, .sl (x.forth.map PairD.cs), .sl (x.back.map PairD.cs)]] _
  refine AC.of' 196 1 Try.func66 rfl ?_
  change AW _ _ _ _ [TK.mk 0 .off]
  refine AW.seq ?_
  refine AW.region ?_
  refine AL.op rfl (AOpB.op (op_box 0 rfl rfl rfl rfl rfl ?_))
  refine AL.n ?_
  refine AL.ra ?_
  refine AL.nil ?_
  change AW _ _ _ _ _
  refine AW.seq ?_
  refine AW.seq ?_
  refine AW.region ?_
  refine AL.r (rd_faddr_bx rfl fo_50_0 rfl rfl ⟨_, _, rfl⟩) ?_
  refine AL.r (rd_load_bx rfl ag_3 rfl rfl rfl) ?_
  refine AL.r (rd_bin rfl rfl rfl (fun _ => rfl)) ?_
  refine AL.rm ?_
  refine AL.fk (d := 10) rfl (fun h10 => ?_) (fun h10 => ?_)
  ·skip
   refine AL.n ?_
   refine AL.rf ?_
   refine AL.rf ?_
   refine AL.rf ?_
   refine AL.r (rd_pick_t rfl rfl rfl) ?_
   refine AL.nil ?_
   change AW _ _ _ _ _
   refine AW.cond_t rfl ?_
   refine AW.seq ?_
   refine AW.region ?_
   refine AL.r (rd_faddr_bx rfl fo_50_1 rfl rfl ⟨_, _, rfl⟩) ?_
   refine AL.r (rd_loadN_bx rfl ag_44 rfl rfl (Nat.le_of_ble_eq_true rfl) rfl) ?_
   refine AL.r (rd_build rfl pl_44 ze_44 rfl rfl) ?_
   refine AL.r (rd_eq_Ref rfl rfl rfl) ?_
   refine AL.rm ?_
   refine AL.fk (d := 19) rfl (fun h19 => ?_) (fun h19 => ?_)
   ·skip
    refine AL.n ?_
    refine AL.ro (rd_faddr_bx rfl fo_50_2 rfl rfl ⟨_, _, rfl⟩) ?_
    refine AL.ro (rd_load_bx rfl ag_9 rfl rfl rfl) ?_
    refine AL.ro (rd_seq rfl rfl rfl) ?_
    refine AL.r (rd_pick_t rfl rfl rfl) ?_
    refine AL.rm ?_
    refine AL.fk (d := 24) rfl (fun h24 => ?_) (fun h24 => ?_)
    ·skip
     refine AL.n ?_
     refine AL.ro (rd_faddr_bx rfl fo_50_3 rfl rfl ⟨_, _, rfl⟩) ?_
     refine AL.ro (rd_load_bx rfl ag_9 rfl rfl rfl) ?_
     refine AL.ro (rd_seq rfl rfl rfl) ?_
     refine AL.r (rd_pick_t rfl rfl rfl) ?_
     refine AL.rm ?_
     refine AL.fk (d := 29) rfl (fun h29 => ?_) (fun h29 => ?_)
     ·skip
      refine AL.n ?_
      refine AL.ro (rd_faddr_bx rfl fo_50_4 rfl rfl ⟨_, _, rfl⟩) ?_
      refine AL.ro (rd_load_bx rfl ag_2 rfl rfl rfl) ?_
      refine AL.ro (rd_bin rfl rfl rfl (fun _ => rfl)) ?_
      refine AL.r (rd_pick_t rfl rfl rfl) ?_
      refine AL.rm ?_
      refine AL.fk (d := 34) rfl (fun h34 => ?_) (fun h34 => ?_)
      ·skip
       refine AL.n ?_
       refine AL.ro (rd_loadN_bx rfl ag_50 rfl rfl (Nat.le_of_ble_eq_true rfl) rfl) ?_
       refine AL.on rfl rfl rfl (AOpB.op (op_call (rtables15_c x) rfl (by kernel_rfl) rfl (none) ?_))
       rintro r rfl
       refine AL.n ?_
       refine AL.ro (rd_un rfl rfl (fun _ => rfl)) ?_
       refine AL.r (rd_pick_t rfl rfl rfl) ?_
       refine AL.rm ?_
       refine AL.fk (d := 39) rfl (fun h39 => ?_) (fun h39 => ?_)
       ·skip
        refine AL.n ?_
        refine AL.ro (rd_faddr_bx rfl fo_50_5 rfl rfl ⟨_, _, rfl⟩) ?_
        refine AL.ro (rd_loadN_bx rfl ag_47 rfl rfl (Nat.le_of_ble_eq_true rfl) rfl) ?_
        refine AL.on rfl rfl rfl (AOpB.op (op_call (rright13 x.field (by omega)) rfl (by kernel_rfl) rfl (none) ?_))
        rintro r rfl
        refine AL.n ?_
        refine AL.r (rd_pick_t rfl rfl rfl) ?_
        refine AL.ra ?_
        refine AL.nil ?_
        change AW _ _ _ _ _
        refine AW.ret ?_
        change ResA _ _ _ _ _
        refine res1 rfl (ResV.tmp rfl) rfl ?_
        (refine congrArg (fun b => RS.s (AB b)) ?_; simp_all [rightV, refD_iff] <;> first | omega | exact beq_dec _ _ | exact emp_dec _ | (rw [Bool.eq_iff_iff]; simp; done) | (intros; omega))
       ·skip
        refine AL.n ?_
        refine AL.rf ?_
        refine AL.rf ?_
        refine AL.rf ?_
        refine AL.r (rd_pick_f rfl rfl rfl) ?_
        refine AL.ra ?_
        refine AL.nil ?_
        change AW _ _ _ _ _
        refine AW.ret ?_
        change ResA _ _ _ _ _
        refine res1 rfl (ResV.tmp rfl) rfl ?_
        (refine congrArg (fun b => RS.s (AB b)) ?_; simp_all [rightV, refD_iff] <;> first | omega | exact beq_dec _ _ | exact emp_dec _ | (rw [Bool.eq_iff_iff]; simp; done) | (intros; omega))
      ·skip
       refine AL.n ?_
       refine AL.rf ?_
       refine AL.rf ?_
       refine AL.rf ?_
       refine AL.r (rd_pick_f rfl rfl rfl) ?_
       refine AL.rm ?_
       refine AL.rf ?_
       refine AL.rf ?_
       refine AL.rf ?_
       refine AL.r (rd_pick_f rfl rfl rfl) ?_
       refine AL.ra ?_
       refine AL.nil ?_
       change AW _ _ _ _ _
       refine AW.ret ?_
       change ResA _ _ _ _ _
       refine res1 rfl (ResV.tmp rfl) rfl ?_
       (refine congrArg (fun b => RS.s (AB b)) ?_; simp_all [rightV, refD_iff] <;> first | omega | exact beq_dec _ _ | exact emp_dec _ | (rw [Bool.eq_iff_iff]; simp; done) | (intros; omega))
     ·skip
      refine AL.n ?_
      refine AL.rf ?_
      refine AL.rf ?_
      refine AL.rf ?_
      refine AL.r (rd_pick_f rfl rfl rfl) ?_
      refine AL.rm ?_
      refine AL.rf ?_
      refine AL.rf ?_
      refine AL.rf ?_
      refine AL.r (rd_pick_f rfl rfl rfl) ?_
      refine AL.rm ?_
      refine AL.rf ?_
      refine AL.rf ?_
      refine AL.rf ?_
      refine AL.r (rd_pick_f rfl rfl rfl) ?_
      refine AL.ra ?_
      refine AL.nil ?_
      change AW _ _ _ _ _
      refine AW.ret ?_
      change ResA _ _ _ _ _
      refine res1 rfl (ResV.tmp rfl) rfl ?_
      (refine congrArg (fun b => RS.s (AB b)) ?_; simp_all [rightV, refD_iff] <;> first | omega | exact beq_dec _ _ | exact emp_dec _ | (rw [Bool.eq_iff_iff]; simp; done) | (intros; omega))
    ·skip
     refine AL.n ?_
     refine AL.rf ?_
     refine AL.rf ?_
     refine AL.rf ?_
     refine AL.r (rd_pick_f rfl rfl rfl) ?_
     refine AL.rm ?_
     refine AL.rf ?_
     refine AL.rf ?_
     refine AL.rf ?_
     refine AL.r (rd_pick_f rfl rfl rfl) ?_
     refine AL.rm ?_
     refine AL.rf ?_
     refine AL.rf ?_
     refine AL.rf ?_
     refine AL.r (rd_pick_f rfl rfl rfl) ?_
     refine AL.rm ?_
     refine AL.rf ?_
     refine AL.rf ?_
     refine AL.rf ?_
     refine AL.r (rd_pick_f rfl rfl rfl) ?_
     refine AL.ra ?_
     refine AL.nil ?_
     change AW _ _ _ _ _
     refine AW.ret ?_
     change ResA _ _ _ _ _
     refine res1 rfl (ResV.tmp rfl) rfl ?_
     (refine congrArg (fun b => RS.s (AB b)) ?_; simp_all [rightV, refD_iff] <;> first | omega | exact beq_dec _ _ | exact emp_dec _ | (rw [Bool.eq_iff_iff]; simp; done) | (intros; omega))
   ·skip
    refine AL.n ?_
    refine AL.rf ?_
    refine AL.rf ?_
    refine AL.rf ?_
    refine AL.r (rd_pick_f rfl rfl rfl) ?_
    refine AL.rm ?_
    refine AL.rf ?_
    refine AL.rf ?_
    refine AL.rf ?_
    refine AL.r (rd_pick_f rfl rfl rfl) ?_
    refine AL.rm ?_
    refine AL.rf ?_
    refine AL.rf ?_
    refine AL.rf ?_
    refine AL.r (rd_pick_f rfl rfl rfl) ?_
    refine AL.rm ?_
    refine AL.rf ?_
    refine AL.rf ?_
    refine AL.rf ?_
    refine AL.r (rd_pick_f rfl rfl rfl) ?_
    refine AL.rm ?_
    refine AL.rf ?_
    refine AL.rf ?_
    refine AL.rf ?_
    refine AL.r (rd_pick_f rfl rfl rfl) ?_
    refine AL.ra ?_
    refine AL.nil ?_
    change AW _ _ _ _ _
    refine AW.ret ?_
    change ResA _ _ _ _ _
    refine res1 rfl (ResV.tmp rfl) rfl ?_
    (refine congrArg (fun b => RS.s (AB b)) ?_; simp_all [rightV, refD_iff] <;> first | omega | exact beq_dec _ _ | exact emp_dec _ | (rw [Bool.eq_iff_iff]; simp; done) | (intros; omega))
  ·skip
   refine AL.n ?_
   refine AL.ro (rd_faddr_bx rfl fo_50_0 rfl rfl ⟨_, _, rfl⟩) ?_
   refine AL.ro (rd_load_bx rfl ag_3 rfl rfl rfl) ?_
   refine AL.ro (rd_bin rfl rfl rfl (fun _ => rfl)) ?_
   refine AL.r (rd_pick_f rfl rfl rfl) ?_
   refine AL.nil ?_
   change AW _ _ _ _ _
   refine AW.cd rfl (fun h14 => ?_) (fun h14 => ?_)
   ·skip
    refine AW.seq ?_
    refine AW.region ?_
    refine AL.r (rd_faddr_bx rfl fo_50_1 rfl rfl ⟨_, _, rfl⟩) ?_
    refine AL.r (rd_loadN_bx rfl ag_44 rfl rfl (Nat.le_of_ble_eq_true rfl) rfl) ?_
    refine AL.r (rd_build rfl pl_44 ze_44 rfl rfl) ?_
    refine AL.r (rd_eq_Ref rfl rfl rfl) ?_
    refine AL.rm ?_
    refine AL.fk (d := 19) rfl (fun h19 => ?_) (fun h19 => ?_)
    ·skip
     refine AL.n ?_
     refine AL.ro (rd_faddr_bx rfl fo_50_2 rfl rfl ⟨_, _, rfl⟩) ?_
     refine AL.ro (rd_load_bx rfl ag_9 rfl rfl rfl) ?_
     refine AL.ro (rd_seq rfl rfl rfl) ?_
     refine AL.r (rd_pick_t rfl rfl rfl) ?_
     refine AL.rm ?_
     refine AL.fk (d := 24) rfl (fun h24 => ?_) (fun h24 => ?_)
     ·skip
      refine AL.n ?_
      refine AL.ro (rd_faddr_bx rfl fo_50_3 rfl rfl ⟨_, _, rfl⟩) ?_
      refine AL.ro (rd_load_bx rfl ag_9 rfl rfl rfl) ?_
      refine AL.ro (rd_seq rfl rfl rfl) ?_
      refine AL.r (rd_pick_t rfl rfl rfl) ?_
      refine AL.rm ?_
      refine AL.fk (d := 29) rfl (fun h29 => ?_) (fun h29 => ?_)
      ·skip
       refine AL.n ?_
       refine AL.ro (rd_faddr_bx rfl fo_50_4 rfl rfl ⟨_, _, rfl⟩) ?_
       refine AL.ro (rd_load_bx rfl ag_2 rfl rfl rfl) ?_
       refine AL.ro (rd_bin rfl rfl rfl (fun _ => rfl)) ?_
       refine AL.r (rd_pick_t rfl rfl rfl) ?_
       refine AL.rm ?_
       refine AL.fk (d := 34) rfl (fun h34 => ?_) (fun h34 => ?_)
       ·skip
        refine AL.n ?_
        refine AL.ro (rd_loadN_bx rfl ag_50 rfl rfl (Nat.le_of_ble_eq_true rfl) rfl) ?_
        refine AL.on rfl rfl rfl (AOpB.op (op_call (rtables15_c x) rfl (by kernel_rfl) rfl (none) ?_))
        rintro r rfl
        refine AL.n ?_
        refine AL.ro (rd_un rfl rfl (fun _ => rfl)) ?_
        refine AL.r (rd_pick_t rfl rfl rfl) ?_
        refine AL.rm ?_
        refine AL.fk (d := 39) rfl (fun h39 => ?_) (fun h39 => ?_)
        ·skip
         refine AL.n ?_
         refine AL.ro (rd_faddr_bx rfl fo_50_5 rfl rfl ⟨_, _, rfl⟩) ?_
         refine AL.ro (rd_loadN_bx rfl ag_47 rfl rfl (Nat.le_of_ble_eq_true rfl) rfl) ?_
         refine AL.on rfl rfl rfl (AOpB.op (op_call (rright13 x.field (by omega)) rfl (by kernel_rfl) rfl (none) ?_))
         rintro r rfl
         refine AL.n ?_
         refine AL.r (rd_pick_t rfl rfl rfl) ?_
         refine AL.ra ?_
         refine AL.nil ?_
         change AW _ _ _ _ _
         refine AW.ret ?_
         change ResA _ _ _ _ _
         refine res1 rfl (ResV.tmp rfl) rfl ?_
         (refine congrArg (fun b => RS.s (AB b)) ?_; simp_all [rightV, refD_iff] <;> first | omega | exact beq_dec _ _ | exact emp_dec _ | (rw [Bool.eq_iff_iff]; simp; done) | (intros; omega))
        ·skip
         refine AL.n ?_
         refine AL.rf ?_
         refine AL.rf ?_
         refine AL.rf ?_
         refine AL.r (rd_pick_f rfl rfl rfl) ?_
         refine AL.ra ?_
         refine AL.nil ?_
         change AW _ _ _ _ _
         refine AW.ret ?_
         change ResA _ _ _ _ _
         refine res1 rfl (ResV.tmp rfl) rfl ?_
         (refine congrArg (fun b => RS.s (AB b)) ?_; simp_all [rightV, refD_iff] <;> first | omega | exact beq_dec _ _ | exact emp_dec _ | (rw [Bool.eq_iff_iff]; simp; done) | (intros; omega))
       ·skip
        refine AL.n ?_
        refine AL.rf ?_
        refine AL.rf ?_
        refine AL.rf ?_
        refine AL.r (rd_pick_f rfl rfl rfl) ?_
        refine AL.rm ?_
        refine AL.rf ?_
        refine AL.rf ?_
        refine AL.rf ?_
        refine AL.r (rd_pick_f rfl rfl rfl) ?_
        refine AL.ra ?_
        refine AL.nil ?_
        change AW _ _ _ _ _
        refine AW.ret ?_
        change ResA _ _ _ _ _
        refine res1 rfl (ResV.tmp rfl) rfl ?_
        (refine congrArg (fun b => RS.s (AB b)) ?_; simp_all [rightV, refD_iff] <;> first | omega | exact beq_dec _ _ | exact emp_dec _ | (rw [Bool.eq_iff_iff]; simp; done) | (intros; omega))
      ·skip
       refine AL.n ?_
       refine AL.rf ?_
       refine AL.rf ?_
       refine AL.rf ?_
       refine AL.r (rd_pick_f rfl rfl rfl) ?_
       refine AL.rm ?_
       refine AL.rf ?_
       refine AL.rf ?_
       refine AL.rf ?_
       refine AL.r (rd_pick_f rfl rfl rfl) ?_
       refine AL.rm ?_
       refine AL.rf ?_
       refine AL.rf ?_
       refine AL.rf ?_
       refine AL.r (rd_pick_f rfl rfl rfl) ?_
       refine AL.ra ?_
       refine AL.nil ?_
       change AW _ _ _ _ _
       refine AW.ret ?_
       change ResA _ _ _ _ _
       refine res1 rfl (ResV.tmp rfl) rfl ?_
       (refine congrArg (fun b => RS.s (AB b)) ?_; simp_all [rightV, refD_iff] <;> first | omega | exact beq_dec _ _ | exact emp_dec _ | (rw [Bool.eq_iff_iff]; simp; done) | (intros; omega))
     ·skip
      refine AL.n ?_
      refine AL.rf ?_
      refine AL.rf ?_
      refine AL.rf ?_
      refine AL.r (rd_pick_f rfl rfl rfl) ?_
      refine AL.rm ?_
      refine AL.rf ?_
      refine AL.rf ?_
      refine AL.rf ?_
      refine AL.r (rd_pick_f rfl rfl rfl) ?_
      refine AL.rm ?_
      refine AL.rf ?_
      refine AL.rf ?_
      refine AL.rf ?_
      refine AL.r (rd_pick_f rfl rfl rfl) ?_
      refine AL.rm ?_
      refine AL.rf ?_
      refine AL.rf ?_
      refine AL.rf ?_
      refine AL.r (rd_pick_f rfl rfl rfl) ?_
      refine AL.ra ?_
      refine AL.nil ?_
      change AW _ _ _ _ _
      refine AW.ret ?_
      change ResA _ _ _ _ _
      refine res1 rfl (ResV.tmp rfl) rfl ?_
      (refine congrArg (fun b => RS.s (AB b)) ?_; simp_all [rightV, refD_iff] <;> first | omega | exact beq_dec _ _ | exact emp_dec _ | (rw [Bool.eq_iff_iff]; simp; done) | (intros; omega))
    ·skip
     refine AL.n ?_
     refine AL.rf ?_
     refine AL.rf ?_
     refine AL.rf ?_
     refine AL.r (rd_pick_f rfl rfl rfl) ?_
     refine AL.rm ?_
     refine AL.rf ?_
     refine AL.rf ?_
     refine AL.rf ?_
     refine AL.r (rd_pick_f rfl rfl rfl) ?_
     refine AL.rm ?_
     refine AL.rf ?_
     refine AL.rf ?_
     refine AL.rf ?_
     refine AL.r (rd_pick_f rfl rfl rfl) ?_
     refine AL.rm ?_
     refine AL.rf ?_
     refine AL.rf ?_
     refine AL.rf ?_
     refine AL.r (rd_pick_f rfl rfl rfl) ?_
     refine AL.rm ?_
     refine AL.rf ?_
     refine AL.rf ?_
     refine AL.rf ?_
     refine AL.r (rd_pick_f rfl rfl rfl) ?_
     refine AL.ra ?_
     refine AL.nil ?_
     change AW _ _ _ _ _
     refine AW.ret ?_
     change ResA _ _ _ _ _
     refine res1 rfl (ResV.tmp rfl) rfl ?_
     (refine congrArg (fun b => RS.s (AB b)) ?_; simp_all [rightV, refD_iff] <;> first | omega | exact beq_dec _ _ | exact emp_dec _ | (rw [Bool.eq_iff_iff]; simp; done) | (intros; omega))
   ·skip
    refine AW.skip ?_
    change AW _ _ _ _ _
    refine AW.seq ?_
    refine AW.seq ?_
    refine AW.region ?_
    refine AL.r (rd_faddr_bx rfl fo_50_1 rfl rfl ⟨_, _, rfl⟩) ?_
    refine AL.r (rd_loadN_bx rfl ag_44 rfl rfl (Nat.le_of_ble_eq_true rfl) rfl) ?_
    refine AL.op rfl (AOpB.op (op_call (rplace_c x.at_) rfl (by kernel_rfl) rfl (none) ?_))
    rintro r rfl
    refine AL.n ?_
    refine AL.r (rd_un rfl rfl (fun _ => rfl)) ?_
    refine AL.rm ?_
    refine AL.fk (d := 48) rfl (fun h48 => ?_) (fun h48 => ?_)
    ·skip
     refine AL.n ?_
     refine AL.rf ?_
     refine AL.rf ?_
     refine AL.rf ?_
     refine AL.r (rd_pick_t rfl rfl rfl) ?_
     refine AL.nil ?_
     change AW _ _ _ _ _
     refine AW.cond_t rfl ?_
     refine AW.seq ?_
     refine AW.region ?_
     refine AL.ra ?_
     refine AL.nil ?_
     change AW _ _ _ _ _
     refine AW.ret ?_
     change ResA _ _ _ _ _
     refine res1 rfl (ResV.tmp rfl) rfl ?_
     (refine congrArg (fun b => RS.s (AB b)) ?_; simp_all [rightV, refD_iff] <;> first | omega | exact beq_dec _ _ | exact emp_dec _ | (rw [Bool.eq_iff_iff]; simp; done) | (intros; omega))
    ·skip
     refine AL.n ?_
     refine AL.ro (rd_loadN_bx rfl ag_50 rfl rfl (Nat.le_of_ble_eq_true rfl) rfl) ?_
     refine AL.on rfl rfl rfl (AOpB.op (op_call (rnone_c x h) rfl (by kernel_rfl) rfl (none) ?_))
     rintro r rfl
     refine AL.n ?_
     refine AL.ro (rd_un rfl rfl (fun _ => rfl)) ?_
     refine AL.r (rd_pick_f rfl rfl rfl) ?_
     refine AL.nil ?_
     change AW _ _ _ _ _
     refine AW.cd rfl (fun h52 => ?_) (fun h52 => ?_)
     ·skip
      refine AW.seq ?_
      refine AW.region ?_
      refine AL.ra ?_
      refine AL.nil ?_
      change AW _ _ _ _ _
      refine AW.ret ?_
      change ResA _ _ _ _ _
      refine res1 rfl (ResV.tmp rfl) rfl ?_
      (refine congrArg (fun b => RS.s (AB b)) ?_; simp_all [rightV, refD_iff] <;> first | omega | exact beq_dec _ _ | exact emp_dec _ | (rw [Bool.eq_iff_iff]; simp; done) | (intros; omega))
     ·skip
      refine AW.skip ?_
      change AW _ _ _ _ _
      refine AW.seq ?_
      refine AW.seq ?_
      refine AW.region ?_
      refine AL.r (rd_faddr_bx rfl fo_50_0 rfl rfl ⟨_, _, rfl⟩) ?_
      refine AL.r (rd_load_bx rfl ag_3 rfl rfl rfl) ?_
      refine AL.r (rd_bin rfl rfl rfl (fun _ => rfl)) ?_
      refine AL.nil ?_
      change AW _ _ _ _ _
      refine AW.cd rfl (fun h55 => ?_) (fun h55 => ?_)
      ·skip
       refine AW.seq ?_
       refine AW.region ?_
       refine AL.r (rd_faddr_bx rfl fo_50_6 rfl rfl ⟨_, _, rfl⟩) ?_
       refine AL.r (rd_load_bx rfl ag_48 rfl rfl rfl) ?_
       refine AL.r (rd_faddr_bx rfl fo_50_2 rfl rfl ⟨_, _, rfl⟩) ?_
       refine AL.r (rd_load_bx rfl ag_9 rfl rfl rfl) ?_
       refine AL.op rfl (AOpB.op (op_call (rcase_c x.forth x.name) rfl (by kernel_rfl) rfl (none) ?_))
       rintro r rfl
       refine AL.n ?_
       refine AL.rm ?_
       refine AL.r (rd_extract rfl rfl rfl) ?_
       refine AL.r (rd_extract rfl rfl rfl) ?_
       refine AL.ra ?_
       refine AL.ra ?_
       refine AL.nil ?_
       change AW _ _ _ _ _
       refine AW.seq ?_
       refine AW.region ?_
       refine AL.r (rd_faddr_bx rfl fo_50_7 rfl rfl ⟨_, _, rfl⟩) ?_
       refine AL.r (rd_load_bx rfl ag_48 rfl rfl rfl) ?_
       refine AL.r (rd_faddr_bx rfl fo_50_3 rfl rfl ⟨_, _, rfl⟩) ?_
       refine AL.r (rd_load_bx rfl ag_9 rfl rfl rfl) ?_
       refine AL.op rfl (AOpB.op (op_call (rcase_c x.back x.other) rfl (by kernel_rfl) rfl (none) ?_))
       rintro r rfl
       refine AL.n ?_
       refine AL.rm ?_
       refine AL.r (rd_extract rfl rfl rfl) ?_
       refine AL.r (rd_extract rfl rfl rfl) ?_
       refine AL.ra ?_
       refine AL.ra ?_
       refine AL.nil ?_
       change AW _ _ _ _ _
       refine AW.seq ?_
       refine AW.region ?_
       refine AL.r (rd_faddr_bx rfl fo_50_4 rfl rfl ⟨_, _, rfl⟩) ?_
       refine AL.r (rd_load_bx rfl ag_2 rfl rfl rfl) ?_
       refine AL.r (rd_bin rfl rfl rfl (fun _ => rfl)) ?_
       refine AL.rm ?_
       refine AL.fk (d := 75) rfl (fun h75 => ?_) (fun h75 => ?_)
       ·skip
        refine AL.n ?_
        refine AL.ro (rd_faddr_bx rfl fo_50_6 rfl rfl ⟨_, _, rfl⟩) ?_
        refine AL.ro (rd_load_bx rfl ag_48 rfl rfl rfl) ?_
        refine AL.ro (rd_faddr_bx rfl fo_50_7 rfl rfl ⟨_, _, rfl⟩) ?_
        refine AL.ro (rd_load_bx rfl ag_48 rfl rfl rfl) ?_
        refine AL.on rfl rfl rfl (AOpB.op (op_call (table_c x.forth x.back (by omega)) rfl (by kernel_rfl) rfl (none) ?_))
        rintro r rfl
        refine AL.n ?_
        refine AL.r (rd_pick_t rfl rfl rfl) ?_
        refine AL.rm ?_
        refine AL.fk (d := 82) rfl (fun h82 => ?_) (fun h82 => ?_)
        ·skip
         refine AL.n ?_
         refine AL.ro (rd_faddr_bx rfl fo_50_7 rfl rfl ⟨_, _, rfl⟩) ?_
         refine AL.ro (rd_load_bx rfl ag_48 rfl rfl rfl) ?_
         refine AL.ro (rd_faddr_bx rfl fo_50_6 rfl rfl ⟨_, _, rfl⟩) ?_
         refine AL.ro (rd_load_bx rfl ag_48 rfl rfl rfl) ?_
         refine AL.on rfl rfl rfl (AOpB.op (op_call (table_c x.back x.forth (by omega)) rfl (by kernel_rfl) rfl (none) ?_))
         rintro r rfl
         refine AL.n ?_
         refine AL.r (rd_pick_t rfl rfl rfl) ?_
         refine AL.rm ?_
         refine AL.fk (d := 89) rfl (fun h89 => ?_) (fun h89 => ?_)
         ·skip
          refine AL.n ?_
          refine AL.ro (rd_move rfl rfl) ?_
          refine AL.r (rd_pick_t rfl rfl rfl) ?_
          refine AL.rm ?_
          refine AL.fk (d := 92) rfl (fun h92 => ?_) (fun h92 => ?_)
          ·skip
           refine AL.n ?_
           refine AL.ro (rd_move rfl rfl) ?_
           refine AL.r (rd_pick_t rfl rfl rfl) ?_
           refine AL.rm ?_
           refine AL.fk (d := 95) rfl (fun h95 => ?_) (fun h95 => ?_)
           ·skip
            refine AL.n ?_
            refine AL.ro (rd_move rfl rfl) ?_
            refine AL.ro (rd_faddr_bx rfl fo_50_3 rfl rfl ⟨_, _, rfl⟩) ?_
            refine AL.ro (rd_load_bx rfl ag_9 rfl rfl rfl) ?_
            refine AL.ro (rd_seq rfl rfl rfl) ?_
            refine AL.r (rd_pick_t rfl rfl rfl) ?_
            refine AL.rm ?_
            refine AL.fk (d := 101) rfl (fun h101 => ?_) (fun h101 => ?_)
            ·skip
             refine AL.n ?_
             refine AL.ro (rd_move rfl rfl) ?_
             refine AL.ro (rd_faddr_bx rfl fo_50_2 rfl rfl ⟨_, _, rfl⟩) ?_
             refine AL.ro (rd_load_bx rfl ag_9 rfl rfl rfl) ?_
             refine AL.ro (rd_seq rfl rfl rfl) ?_
             refine AL.r (rd_pick_t rfl rfl rfl) ?_
             refine AL.ra ?_
             refine AL.nil ?_
             change AW _ _ _ _ _
             refine AW.ret ?_
             change ResA _ _ _ _ _
             refine res1 rfl (ResV.tmp rfl) rfl ?_
             (refine congrArg (fun b => RS.s (AB b)) ?_; simp_all [rightV, refD_iff] <;> first | omega | exact beq_dec _ _ | exact emp_dec _ | (rw [Bool.eq_iff_iff]; simp; done) | (intros; omega))
            ·skip
             refine AL.n ?_
             refine AL.rf ?_
             refine AL.rf ?_
             refine AL.rf ?_
             refine AL.rf ?_
             refine AL.r (rd_pick_f rfl rfl rfl) ?_
             refine AL.ra ?_
             refine AL.nil ?_
             change AW _ _ _ _ _
             refine AW.ret ?_
             change ResA _ _ _ _ _
             refine res1 rfl (ResV.tmp rfl) rfl ?_
             (refine congrArg (fun b => RS.s (AB b)) ?_; simp_all [rightV, refD_iff] <;> first | omega | exact beq_dec _ _ | exact emp_dec _ | (rw [Bool.eq_iff_iff]; simp; done) | (intros; omega))
           ·skip
            refine AL.n ?_
            refine AL.rf ?_
            refine AL.rf ?_
            refine AL.rf ?_
            refine AL.rf ?_
            refine AL.r (rd_pick_f rfl rfl rfl) ?_
            refine AL.rm ?_
            refine AL.rf ?_
            refine AL.rf ?_
            refine AL.rf ?_
            refine AL.rf ?_
            refine AL.r (rd_pick_f rfl rfl rfl) ?_
            refine AL.ra ?_
            refine AL.nil ?_
            change AW _ _ _ _ _
            refine AW.ret ?_
            change ResA _ _ _ _ _
            refine res1 rfl (ResV.tmp rfl) rfl ?_
            (refine congrArg (fun b => RS.s (AB b)) ?_; simp_all [rightV, refD_iff] <;> first | omega | exact beq_dec _ _ | exact emp_dec _ | (rw [Bool.eq_iff_iff]; simp; done) | (intros; omega))
          ·skip
           refine AL.n ?_
           refine AL.rf ?_
           refine AL.r (rd_pick_f rfl rfl rfl) ?_
           refine AL.rm ?_
           refine AL.rf ?_
           refine AL.rf ?_
           refine AL.rf ?_
           refine AL.rf ?_
           refine AL.r (rd_pick_f rfl rfl rfl) ?_
           refine AL.rm ?_
           refine AL.rf ?_
           refine AL.rf ?_
           refine AL.rf ?_
           refine AL.rf ?_
           refine AL.r (rd_pick_f rfl rfl rfl) ?_
           refine AL.ra ?_
           refine AL.nil ?_
           change AW _ _ _ _ _
           refine AW.ret ?_
           change ResA _ _ _ _ _
           refine res1 rfl (ResV.tmp rfl) rfl ?_
           (refine congrArg (fun b => RS.s (AB b)) ?_; simp_all [rightV, refD_iff] <;> first | omega | exact beq_dec _ _ | exact emp_dec _ | (rw [Bool.eq_iff_iff]; simp; done) | (intros; omega))
         ·skip
          refine AL.n ?_
          refine AL.rf ?_
          refine AL.r (rd_pick_f rfl rfl rfl) ?_
          refine AL.rm ?_
          refine AL.rf ?_
          refine AL.r (rd_pick_f rfl rfl rfl) ?_
          refine AL.rm ?_
          refine AL.rf ?_
          refine AL.rf ?_
          refine AL.rf ?_
          refine AL.rf ?_
          refine AL.r (rd_pick_f rfl rfl rfl) ?_
          refine AL.rm ?_
          refine AL.rf ?_
          refine AL.rf ?_
          refine AL.rf ?_
          refine AL.rf ?_
          refine AL.r (rd_pick_f rfl rfl rfl) ?_
          refine AL.ra ?_
          refine AL.nil ?_
          change AW _ _ _ _ _
          refine AW.ret ?_
          change ResA _ _ _ _ _
          refine res1 rfl (ResV.tmp rfl) rfl ?_
          (refine congrArg (fun b => RS.s (AB b)) ?_; simp_all [rightV, refD_iff] <;> first | omega | exact beq_dec _ _ | exact emp_dec _ | (rw [Bool.eq_iff_iff]; simp; done) | (intros; omega))
        ·skip
         refine AL.n ?_
         refine AL.rf ?_
         refine AL.rf ?_
         refine AL.rf ?_
         refine AL.rf ?_
         refine AL.rf ?_
         refine AL.r (rd_pick_f rfl rfl rfl) ?_
         refine AL.rm ?_
         refine AL.rf ?_
         refine AL.r (rd_pick_f rfl rfl rfl) ?_
         refine AL.rm ?_
         refine AL.rf ?_
         refine AL.r (rd_pick_f rfl rfl rfl) ?_
         refine AL.rm ?_
         refine AL.rf ?_
         refine AL.rf ?_
         refine AL.rf ?_
         refine AL.rf ?_
         refine AL.r (rd_pick_f rfl rfl rfl) ?_
         refine AL.rm ?_
         refine AL.rf ?_
         refine AL.rf ?_
         refine AL.rf ?_
         refine AL.rf ?_
         refine AL.r (rd_pick_f rfl rfl rfl) ?_
         refine AL.ra ?_
         refine AL.nil ?_
         change AW _ _ _ _ _
         refine AW.ret ?_
         change ResA _ _ _ _ _
         refine res1 rfl (ResV.tmp rfl) rfl ?_
         (refine congrArg (fun b => RS.s (AB b)) ?_; simp_all [rightV, refD_iff] <;> first | omega | exact beq_dec _ _ | exact emp_dec _ | (rw [Bool.eq_iff_iff]; simp; done) | (intros; omega))
       ·skip
        refine AL.n ?_
        refine AL.rf ?_
        refine AL.rf ?_
        refine AL.rf ?_
        refine AL.rf ?_
        refine AL.rf ?_
        refine AL.r (rd_pick_f rfl rfl rfl) ?_
        refine AL.rm ?_
        refine AL.rf ?_
        refine AL.rf ?_
        refine AL.rf ?_
        refine AL.rf ?_
        refine AL.rf ?_
        refine AL.r (rd_pick_f rfl rfl rfl) ?_
        refine AL.rm ?_
        refine AL.rf ?_
        refine AL.r (rd_pick_f rfl rfl rfl) ?_
        refine AL.rm ?_
        refine AL.rf ?_
        refine AL.r (rd_pick_f rfl rfl rfl) ?_
        refine AL.rm ?_
        refine AL.rf ?_
        refine AL.rf ?_
        refine AL.rf ?_
        refine AL.rf ?_
        refine AL.r (rd_pick_f rfl rfl rfl) ?_
        refine AL.rm ?_
        refine AL.rf ?_
        refine AL.rf ?_
        refine AL.rf ?_
        refine AL.rf ?_
        refine AL.r (rd_pick_f rfl rfl rfl) ?_
        refine AL.ra ?_
        refine AL.nil ?_
        change AW _ _ _ _ _
        refine AW.ret ?_
        change ResA _ _ _ _ _
        refine res1 rfl (ResV.tmp rfl) rfl ?_
        (refine congrArg (fun b => RS.s (AB b)) ?_; simp_all [rightV, refD_iff] <;> first | omega | exact beq_dec _ _ | exact emp_dec _ | (rw [Bool.eq_iff_iff]; simp; done) | (intros; omega))
      ·skip
       refine AW.skip ?_
       change AW _ _ _ _ _
       refine AW.seq ?_
       refine AW.seq ?_
       refine AW.region ?_
       refine AL.r (rd_loadN_bx rfl ag_50 rfl rfl (Nat.le_of_ble_eq_true rfl) rfl) ?_
       refine AL.op rfl (AOpB.op (op_call (rtables15_c x) rfl (by kernel_rfl) rfl (none) ?_))
       rintro r rfl
       refine AL.n ?_
       refine AL.nil ?_
       change AW _ _ _ _ _
       refine AW.cd rfl (fun h108 => ?_) (fun h108 => ?_)
       ·skip
        refine AW.seq ?_
        refine AW.region ?_
        refine AL.ra ?_
        refine AL.nil ?_
        change AW _ _ _ _ _
        refine AW.ret ?_
        change ResA _ _ _ _ _
        refine res1 rfl (ResV.tmp rfl) rfl ?_
        (refine congrArg (fun b => RS.s (AB b)) ?_; simp_all [rightV, refD_iff] <;> first | omega | exact beq_dec _ _ | exact emp_dec _ | (rw [Bool.eq_iff_iff]; simp; done) | (intros; omega))
       ·skip
        refine AW.skip ?_
        change AW _ _ _ _ _
        refine AW.seq ?_
        refine AW.seq ?_
        refine AW.region ?_
        refine AL.r (rd_faddr_bx rfl fo_50_0 rfl rfl ⟨_, _, rfl⟩) ?_
        refine AL.r (rd_load_bx rfl ag_3 rfl rfl rfl) ?_
        refine AL.r (rd_bin rfl rfl rfl (fun _ => rfl)) ?_
        refine AL.rm ?_
        refine AL.fk (d := 112) rfl (fun h112 => ?_) (fun h112 => ?_)
        ·skip
         refine AL.n ?_
         refine AL.rf ?_
         refine AL.rf ?_
         refine AL.rf ?_
         refine AL.r (rd_pick_t rfl rfl rfl) ?_
         refine AL.nil ?_
         change AW _ _ _ _ _
         refine AW.cond_t rfl ?_
         refine AW.seq ?_
         refine AW.region ?_
         refine AL.r (rd_faddr_bx rfl fo_50_2 rfl rfl ⟨_, _, rfl⟩) ?_
         refine AL.r (rd_load_bx rfl ag_9 rfl rfl rfl) ?_
         refine AL.op rfl (AOpB.op (op_call (rname_c x.name) rfl (by kernel_rfl) rfl (none) ?_))
         rintro r rfl
         refine AL.n ?_
         refine AL.rm ?_
         refine AL.fk (d := 120) rfl (fun h120 => ?_) (fun h120 => ?_)
         ·skip
          refine AL.n ?_
          refine AL.ro (rd_faddr_bx rfl fo_50_3 rfl rfl ⟨_, _, rfl⟩) ?_
          refine AL.ro (rd_load_bx rfl ag_9 rfl rfl rfl) ?_
          refine AL.on rfl rfl rfl (AOpB.op (op_call (rname_c x.other) rfl (by kernel_rfl) rfl (none) ?_))
          rintro r rfl
          refine AL.n ?_
          refine AL.r (rd_pick_t rfl rfl rfl) ?_
          refine AL.rm ?_
          refine AL.fk (d := 125) rfl (fun h125 => ?_) (fun h125 => ?_)
          ·skip
           refine AL.n ?_
           refine AL.ro (rd_faddr_bx rfl fo_50_2 rfl rfl ⟨_, _, rfl⟩) ?_
           refine AL.ro (rd_load_bx rfl ag_9 rfl rfl rfl) ?_
           refine AL.ro (rd_faddr_bx rfl fo_50_3 rfl rfl ⟨_, _, rfl⟩) ?_
           refine AL.ro (rd_load_bx rfl ag_9 rfl rfl rfl) ?_
           refine AL.ro (rd_sne rfl rfl rfl) ?_
           refine AL.r (rd_pick_t rfl rfl rfl) ?_
           refine AL.rm ?_
           refine AL.fk (d := 132) rfl (fun h132 => ?_) (fun h132 => ?_)
           ·skip
            refine AL.n ?_
            refine AL.ro (rd_faddr_bx rfl fo_50_4 rfl rfl ⟨_, _, rfl⟩) ?_
            refine AL.ro (rd_load_bx rfl ag_2 rfl rfl rfl) ?_
            refine AL.ro (rd_bin rfl rfl rfl (fun _ => rfl)) ?_
            refine AL.r (rd_pick_t rfl rfl rfl) ?_
            refine AL.rm ?_
            refine AL.fk (d := 137) rfl (fun h137 => ?_) (fun h137 => ?_)
            ·skip
             refine AL.n ?_
             refine AL.ro (rd_faddr_bx rfl fo_50_4 rfl rfl ⟨_, _, rfl⟩) ?_
             refine AL.ro (rd_load_bx rfl ag_2 rfl rfl rfl) ?_
             refine AL.ro (rd_bin rfl rfl rfl (fun _ => rfl)) ?_
             refine AL.r (rd_pick_t rfl rfl rfl) ?_
             refine AL.ra ?_
             refine AL.nil ?_
             change AW _ _ _ _ _
             refine AW.ret ?_
             change ResA _ _ _ _ _
             refine res1 rfl (ResV.tmp rfl) rfl ?_
             (refine congrArg (fun b => RS.s (AB b)) ?_; simp_all [rightV, refD_iff] <;> first | omega | exact beq_dec _ _ | exact emp_dec _ | (rw [Bool.eq_iff_iff]; simp; done) | (intros; omega))
            ·skip
             refine AL.n ?_
             refine AL.rf ?_
             refine AL.rf ?_
             refine AL.rf ?_
             refine AL.r (rd_pick_f rfl rfl rfl) ?_
             refine AL.ra ?_
             refine AL.nil ?_
             change AW _ _ _ _ _
             refine AW.ret ?_
             change ResA _ _ _ _ _
             refine res1 rfl (ResV.tmp rfl) rfl ?_
             (refine congrArg (fun b => RS.s (AB b)) ?_; simp_all [rightV, refD_iff] <;> first | omega | exact beq_dec _ _ | exact emp_dec _ | (rw [Bool.eq_iff_iff]; simp; done) | (intros; omega))
           ·skip
            refine AL.n ?_
            refine AL.rf ?_
            refine AL.rf ?_
            refine AL.rf ?_
            refine AL.r (rd_pick_f rfl rfl rfl) ?_
            refine AL.rm ?_
            refine AL.rf ?_
            refine AL.rf ?_
            refine AL.rf ?_
            refine AL.r (rd_pick_f rfl rfl rfl) ?_
            refine AL.ra ?_
            refine AL.nil ?_
            change AW _ _ _ _ _
            refine AW.ret ?_
            change ResA _ _ _ _ _
            refine res1 rfl (ResV.tmp rfl) rfl ?_
            (refine congrArg (fun b => RS.s (AB b)) ?_; simp_all [rightV, refD_iff] <;> first | omega | exact beq_dec _ _ | exact emp_dec _ | (rw [Bool.eq_iff_iff]; simp; done) | (intros; omega))
          ·skip
           refine AL.n ?_
           refine AL.rf ?_
           refine AL.rf ?_
           refine AL.rf ?_
           refine AL.rf ?_
           refine AL.rf ?_
           refine AL.r (rd_pick_f rfl rfl rfl) ?_
           refine AL.rm ?_
           refine AL.rf ?_
           refine AL.rf ?_
           refine AL.rf ?_
           refine AL.r (rd_pick_f rfl rfl rfl) ?_
           refine AL.rm ?_
           refine AL.rf ?_
           refine AL.rf ?_
           refine AL.rf ?_
           refine AL.r (rd_pick_f rfl rfl rfl) ?_
           refine AL.ra ?_
           refine AL.nil ?_
           change AW _ _ _ _ _
           refine AW.ret ?_
           change ResA _ _ _ _ _
           refine res1 rfl (ResV.tmp rfl) rfl ?_
           (refine congrArg (fun b => RS.s (AB b)) ?_; simp_all [rightV, refD_iff] <;> first | omega | exact beq_dec _ _ | exact emp_dec _ | (rw [Bool.eq_iff_iff]; simp; done) | (intros; omega))
         ·skip
          refine AL.n ?_
          refine AL.rf ?_
          refine AL.rf ?_
          refine AL.rf ?_
          refine AL.r (rd_pick_f rfl rfl rfl) ?_
          refine AL.rm ?_
          refine AL.rf ?_
          refine AL.rf ?_
          refine AL.rf ?_
          refine AL.rf ?_
          refine AL.rf ?_
          refine AL.r (rd_pick_f rfl rfl rfl) ?_
          refine AL.rm ?_
          refine AL.rf ?_
          refine AL.rf ?_
          refine AL.rf ?_
          refine AL.r (rd_pick_f rfl rfl rfl) ?_
          refine AL.rm ?_
          refine AL.rf ?_
          refine AL.rf ?_
          refine AL.rf ?_
          refine AL.r (rd_pick_f rfl rfl rfl) ?_
          refine AL.ra ?_
          refine AL.nil ?_
          change AW _ _ _ _ _
          refine AW.ret ?_
          change ResA _ _ _ _ _
          refine res1 rfl (ResV.tmp rfl) rfl ?_
          (refine congrArg (fun b => RS.s (AB b)) ?_; simp_all [rightV, refD_iff] <;> first | omega | exact beq_dec _ _ | exact emp_dec _ | (rw [Bool.eq_iff_iff]; simp; done) | (intros; omega))
        ·skip
         refine AL.n ?_
         refine AL.ro (rd_faddr_bx rfl fo_50_0 rfl rfl ⟨_, _, rfl⟩) ?_
         refine AL.ro (rd_load_bx rfl ag_3 rfl rfl rfl) ?_
         refine AL.ro (rd_bin rfl rfl rfl (fun _ => rfl)) ?_
         refine AL.r (rd_pick_f rfl rfl rfl) ?_
         refine AL.nil ?_
         change AW _ _ _ _ _
         refine AW.cd rfl (fun h116 => ?_) (fun h116 => ?_)
         ·skip
          refine AW.seq ?_
          refine AW.region ?_
          refine AL.r (rd_faddr_bx rfl fo_50_2 rfl rfl ⟨_, _, rfl⟩) ?_
          refine AL.r (rd_load_bx rfl ag_9 rfl rfl rfl) ?_
          refine AL.op rfl (AOpB.op (op_call (rname_c x.name) rfl (by kernel_rfl) rfl (none) ?_))
          rintro r rfl
          refine AL.n ?_
          refine AL.rm ?_
          refine AL.fk (d := 120) rfl (fun h120 => ?_) (fun h120 => ?_)
          ·skip
           refine AL.n ?_
           refine AL.ro (rd_faddr_bx rfl fo_50_3 rfl rfl ⟨_, _, rfl⟩) ?_
           refine AL.ro (rd_load_bx rfl ag_9 rfl rfl rfl) ?_
           refine AL.on rfl rfl rfl (AOpB.op (op_call (rname_c x.other) rfl (by kernel_rfl) rfl (none) ?_))
           rintro r rfl
           refine AL.n ?_
           refine AL.r (rd_pick_t rfl rfl rfl) ?_
           refine AL.rm ?_
           refine AL.fk (d := 125) rfl (fun h125 => ?_) (fun h125 => ?_)
           ·skip
            refine AL.n ?_
            refine AL.ro (rd_faddr_bx rfl fo_50_2 rfl rfl ⟨_, _, rfl⟩) ?_
            refine AL.ro (rd_load_bx rfl ag_9 rfl rfl rfl) ?_
            refine AL.ro (rd_faddr_bx rfl fo_50_3 rfl rfl ⟨_, _, rfl⟩) ?_
            refine AL.ro (rd_load_bx rfl ag_9 rfl rfl rfl) ?_
            refine AL.ro (rd_sne rfl rfl rfl) ?_
            refine AL.r (rd_pick_t rfl rfl rfl) ?_
            refine AL.rm ?_
            refine AL.fk (d := 132) rfl (fun h132 => ?_) (fun h132 => ?_)
            ·skip
             refine AL.n ?_
             refine AL.ro (rd_faddr_bx rfl fo_50_4 rfl rfl ⟨_, _, rfl⟩) ?_
             refine AL.ro (rd_load_bx rfl ag_2 rfl rfl rfl) ?_
             refine AL.ro (rd_bin rfl rfl rfl (fun _ => rfl)) ?_
             refine AL.r (rd_pick_t rfl rfl rfl) ?_
             refine AL.rm ?_
             refine AL.fk (d := 137) rfl (fun h137 => ?_) (fun h137 => ?_)
             ·skip
              refine AL.n ?_
              refine AL.ro (rd_faddr_bx rfl fo_50_4 rfl rfl ⟨_, _, rfl⟩) ?_
              refine AL.ro (rd_load_bx rfl ag_2 rfl rfl rfl) ?_
              refine AL.ro (rd_bin rfl rfl rfl (fun _ => rfl)) ?_
              refine AL.r (rd_pick_t rfl rfl rfl) ?_
              refine AL.ra ?_
              refine AL.nil ?_
              change AW _ _ _ _ _
              refine AW.ret ?_
              change ResA _ _ _ _ _
              refine res1 rfl (ResV.tmp rfl) rfl ?_
              (refine congrArg (fun b => RS.s (AB b)) ?_; simp_all [rightV, refD_iff] <;> first | omega | exact beq_dec _ _ | exact emp_dec _ | (rw [Bool.eq_iff_iff]; simp; done) | (intros; omega))
             ·skip
              refine AL.n ?_
              refine AL.rf ?_
              refine AL.rf ?_
              refine AL.rf ?_
              refine AL.r (rd_pick_f rfl rfl rfl) ?_
              refine AL.ra ?_
              refine AL.nil ?_
              change AW _ _ _ _ _
              refine AW.ret ?_
              change ResA _ _ _ _ _
              refine res1 rfl (ResV.tmp rfl) rfl ?_
              (refine congrArg (fun b => RS.s (AB b)) ?_; simp_all [rightV, refD_iff] <;> first | omega | exact beq_dec _ _ | exact emp_dec _ | (rw [Bool.eq_iff_iff]; simp; done) | (intros; omega))
            ·skip
             refine AL.n ?_
             refine AL.rf ?_
             refine AL.rf ?_
             refine AL.rf ?_
             refine AL.r (rd_pick_f rfl rfl rfl) ?_
             refine AL.rm ?_
             refine AL.rf ?_
             refine AL.rf ?_
             refine AL.rf ?_
             refine AL.r (rd_pick_f rfl rfl rfl) ?_
             refine AL.ra ?_
             refine AL.nil ?_
             change AW _ _ _ _ _
             refine AW.ret ?_
             change ResA _ _ _ _ _
             refine res1 rfl (ResV.tmp rfl) rfl ?_
             (refine congrArg (fun b => RS.s (AB b)) ?_; simp_all [rightV, refD_iff] <;> first | omega | exact beq_dec _ _ | exact emp_dec _ | (rw [Bool.eq_iff_iff]; simp; done) | (intros; omega))
           ·skip
            refine AL.n ?_
            refine AL.rf ?_
            refine AL.rf ?_
            refine AL.rf ?_
            refine AL.rf ?_
            refine AL.rf ?_
            refine AL.r (rd_pick_f rfl rfl rfl) ?_
            refine AL.rm ?_
            refine AL.rf ?_
            refine AL.rf ?_
            refine AL.rf ?_
            refine AL.r (rd_pick_f rfl rfl rfl) ?_
            refine AL.rm ?_
            refine AL.rf ?_
            refine AL.rf ?_
            refine AL.rf ?_
            refine AL.r (rd_pick_f rfl rfl rfl) ?_
            refine AL.ra ?_
            refine AL.nil ?_
            change AW _ _ _ _ _
            refine AW.ret ?_
            change ResA _ _ _ _ _
            refine res1 rfl (ResV.tmp rfl) rfl ?_
            (refine congrArg (fun b => RS.s (AB b)) ?_; simp_all [rightV, refD_iff] <;> first | omega | exact beq_dec _ _ | exact emp_dec _ | (rw [Bool.eq_iff_iff]; simp; done) | (intros; omega))
          ·skip
           refine AL.n ?_
           refine AL.rf ?_
           refine AL.rf ?_
           refine AL.rf ?_
           refine AL.r (rd_pick_f rfl rfl rfl) ?_
           refine AL.rm ?_
           refine AL.rf ?_
           refine AL.rf ?_
           refine AL.rf ?_
           refine AL.rf ?_
           refine AL.rf ?_
           refine AL.r (rd_pick_f rfl rfl rfl) ?_
           refine AL.rm ?_
           refine AL.rf ?_
           refine AL.rf ?_
           refine AL.rf ?_
           refine AL.r (rd_pick_f rfl rfl rfl) ?_
           refine AL.rm ?_
           refine AL.rf ?_
           refine AL.rf ?_
           refine AL.rf ?_
           refine AL.r (rd_pick_f rfl rfl rfl) ?_
           refine AL.ra ?_
           refine AL.nil ?_
           change AW _ _ _ _ _
           refine AW.ret ?_
           change ResA _ _ _ _ _
           refine res1 rfl (ResV.tmp rfl) rfl ?_
           (refine congrArg (fun b => RS.s (AB b)) ?_; simp_all [rightV, refD_iff] <;> first | omega | exact beq_dec _ _ | exact emp_dec _ | (rw [Bool.eq_iff_iff]; simp; done) | (intros; omega))
         ·skip
          refine AW.skip ?_
          change AW _ _ _ _ _
          refine AW.seq ?_
          refine AW.seq ?_
          refine AW.region ?_
          refine AL.r (rd_faddr_bx rfl fo_50_4 rfl rfl ⟨_, _, rfl⟩) ?_
          refine AL.r (rd_load_bx rfl ag_2 rfl rfl rfl) ?_
          refine AL.r (rd_bin rfl rfl rfl (fun _ => rfl)) ?_
          refine AL.nil ?_
          change AW _ _ _ _ _
          refine AW.cd rfl (fun h144 => ?_) (fun h144 => ?_)
          ·skip
           refine AW.seq ?_
           refine AW.region ?_
           refine AL.ra ?_
           refine AL.nil ?_
           change AW _ _ _ _ _
           refine AW.ret ?_
           change ResA _ _ _ _ _
           refine res1 rfl (ResV.tmp rfl) rfl ?_
           (refine congrArg (fun b => RS.s (AB b)) ?_; simp_all [rightV, refD_iff] <;> first | omega | exact beq_dec _ _ | exact emp_dec _ | (rw [Bool.eq_iff_iff]; simp; done) | (intros; omega))
          ·skip
           refine AW.skip ?_
           change AW _ _ _ _ _
           refine AW.seq ?_
           refine AW.seq ?_
           refine AW.region ?_
           refine AL.r (rd_faddr_bx rfl fo_50_0 rfl rfl ⟨_, _, rfl⟩) ?_
           refine AL.r (rd_load_bx rfl ag_3 rfl rfl rfl) ?_
           refine AL.r (rd_bin rfl rfl rfl (fun _ => rfl)) ?_
           refine AL.rm ?_
           refine AL.fk (d := 148) rfl (fun h148 => ?_) (fun h148 => ?_)
           ·skip
            refine AL.n ?_
            refine AL.rf ?_
            refine AL.rf ?_
            refine AL.rf ?_
            refine AL.r (rd_pick_t rfl rfl rfl) ?_
            refine AL.nil ?_
            change AW _ _ _ _ _
            refine AW.cond_t rfl ?_
            refine AW.seq ?_
            refine AW.region ?_
            refine AL.r (rd_faddr_bx rfl fo_50_2 rfl rfl ⟨_, _, rfl⟩) ?_
            refine AL.r (rd_load_bx rfl ag_9 rfl rfl rfl) ?_
            refine AL.r (rd_seq rfl rfl rfl) ?_
            refine AL.rm ?_
            refine AL.fk (d := 156) rfl (fun h156 => ?_) (fun h156 => ?_)
            ·skip
             refine AL.n ?_
             refine AL.ro (rd_faddr_bx rfl fo_50_3 rfl rfl ⟨_, _, rfl⟩) ?_
             refine AL.ro (rd_load_bx rfl ag_9 rfl rfl rfl) ?_
             refine AL.ro (rd_len_str rfl str_9 rfl) ?_
             refine AL.ro (rd_bin rfl rfl rfl (fun _ => rfl)) ?_
             refine AL.r (rd_pick_t rfl rfl rfl) ?_
             refine AL.ra ?_
             refine AL.nil ?_
             change AW _ _ _ _ _
             refine AW.ret ?_
             change ResA _ _ _ _ _
             refine res1 rfl (ResV.tmp rfl) rfl ?_
             (refine congrArg (fun b => RS.s (AB b)) ?_; simp_all [rightV, refD_iff] <;> first | omega | exact beq_dec _ _ | exact emp_dec _ | (rw [Bool.eq_iff_iff]; simp; done) | (intros; omega))
            ·skip
             refine AL.n ?_
             refine AL.rf ?_
             refine AL.rf ?_
             refine AL.rf ?_
             refine AL.rf ?_
             refine AL.r (rd_pick_f rfl rfl rfl) ?_
             refine AL.ra ?_
             refine AL.nil ?_
             change AW _ _ _ _ _
             refine AW.ret ?_
             change ResA _ _ _ _ _
             refine res1 rfl (ResV.tmp rfl) rfl ?_
             (refine congrArg (fun b => RS.s (AB b)) ?_; simp_all [rightV, refD_iff] <;> first | omega | exact beq_dec _ _ | exact emp_dec _ | (rw [Bool.eq_iff_iff]; simp; done) | (intros; omega))
           ·skip
            refine AL.n ?_
            refine AL.ro (rd_faddr_bx rfl fo_50_0 rfl rfl ⟨_, _, rfl⟩) ?_
            refine AL.ro (rd_load_bx rfl ag_3 rfl rfl rfl) ?_
            refine AL.ro (rd_bin rfl rfl rfl (fun _ => rfl)) ?_
            refine AL.r (rd_pick_f rfl rfl rfl) ?_
            refine AL.nil ?_
            change AW _ _ _ _ _
            refine AW.cd rfl (fun h152 => ?_) (fun h152 => ?_)
            ·skip
             refine AW.seq ?_
             refine AW.region ?_
             refine AL.r (rd_faddr_bx rfl fo_50_2 rfl rfl ⟨_, _, rfl⟩) ?_
             refine AL.r (rd_load_bx rfl ag_9 rfl rfl rfl) ?_
             refine AL.r (rd_seq rfl rfl rfl) ?_
             refine AL.rm ?_
             refine AL.fk (d := 156) rfl (fun h156 => ?_) (fun h156 => ?_)
             ·skip
              refine AL.n ?_
              refine AL.ro (rd_faddr_bx rfl fo_50_3 rfl rfl ⟨_, _, rfl⟩) ?_
              refine AL.ro (rd_load_bx rfl ag_9 rfl rfl rfl) ?_
              refine AL.ro (rd_len_str rfl str_9 rfl) ?_
              refine AL.ro (rd_bin rfl rfl rfl (fun _ => rfl)) ?_
              refine AL.r (rd_pick_t rfl rfl rfl) ?_
              refine AL.ra ?_
              refine AL.nil ?_
              change AW _ _ _ _ _
              refine AW.ret ?_
              change ResA _ _ _ _ _
              refine res1 rfl (ResV.tmp rfl) rfl ?_
              (refine congrArg (fun b => RS.s (AB b)) ?_; simp_all [rightV, refD_iff] <;> first | omega | exact beq_dec _ _ | exact emp_dec _ | (rw [Bool.eq_iff_iff]; simp; done) | (intros; omega))
             ·skip
              refine AL.n ?_
              refine AL.rf ?_
              refine AL.rf ?_
              refine AL.rf ?_
              refine AL.rf ?_
              refine AL.r (rd_pick_f rfl rfl rfl) ?_
              refine AL.ra ?_
              refine AL.nil ?_
              change AW _ _ _ _ _
              refine AW.ret ?_
              change ResA _ _ _ _ _
              refine res1 rfl (ResV.tmp rfl) rfl ?_
              (refine congrArg (fun b => RS.s (AB b)) ?_; simp_all [rightV, refD_iff] <;> first | omega | exact beq_dec _ _ | exact emp_dec _ | (rw [Bool.eq_iff_iff]; simp; done) | (intros; omega))
            ·skip
             refine AW.skip ?_
             change AW _ _ _ _ _
             refine AW.seq ?_
             refine AW.seq ?_
             refine AW.region ?_
             refine AL.r (rd_faddr_bx rfl fo_50_3 rfl rfl ⟨_, _, rfl⟩) ?_
             refine AL.r (rd_load_bx rfl ag_9 rfl rfl rfl) ?_
             refine AL.r (rd_sne rfl rfl rfl) ?_
             refine AL.nil ?_
             change AW _ _ _ _ _
             refine AW.cd rfl (fun h164 => ?_) (fun h164 => ?_)
             ·skip
              refine AW.seq ?_
              refine AW.region ?_
              refine AL.ra ?_
              refine AL.nil ?_
              change AW _ _ _ _ _
              refine AW.ret ?_
              change ResA _ _ _ _ _
              refine res1 rfl (ResV.tmp rfl) rfl ?_
              (refine congrArg (fun b => RS.s (AB b)) ?_; simp_all [rightV, refD_iff] <;> first | omega | exact beq_dec _ _ | exact emp_dec _ | (rw [Bool.eq_iff_iff]; simp; done) | (intros; omega))
             ·skip
              refine AW.skip ?_
              change AW _ _ _ _ _
              refine AW.seq ?_
              refine AW.seq ?_
              refine AW.region ?_
              refine AL.r (rd_faddr_bx rfl fo_50_0 rfl rfl ⟨_, _, rfl⟩) ?_
              refine AL.r (rd_load_bx rfl ag_3 rfl rfl rfl) ?_
              refine AL.r (rd_bin rfl rfl rfl (fun _ => rfl)) ?_
              refine AL.nil ?_
              change AW _ _ _ _ _
              refine AW.cd rfl (fun h167 => ?_) (fun h167 => ?_)
              ·skip
               refine AW.seq ?_
               refine AW.region ?_
               refine AL.r (rd_faddr_bx rfl fo_50_2 rfl rfl ⟨_, _, rfl⟩) ?_
               refine AL.r (rd_load_bx rfl ag_9 rfl rfl rfl) ?_
               refine AL.op rfl (AOpB.op (op_call (rname_c x.name) rfl (by kernel_rfl) rfl (none) ?_))
               rintro r rfl
               refine AL.n ?_
               refine AL.ra ?_
               refine AL.nil ?_
               change AW _ _ _ _ _
               refine AW.ret ?_
               change ResA _ _ _ _ _
               refine res1 rfl (ResV.tmp rfl) rfl ?_
               (refine congrArg (fun b => RS.s (AB b)) ?_; simp_all [rightV, refD_iff] <;> first | omega | exact beq_dec _ _ | exact emp_dec _ | (rw [Bool.eq_iff_iff]; simp; done) | (intros; omega))
              ·skip
               refine AW.skip ?_
               change AW _ _ _ _ _
               refine AW.seq ?_
               refine AW.seq ?_
               refine AW.region ?_
               refine AL.r (rd_faddr_bx rfl fo_50_0 rfl rfl ⟨_, _, rfl⟩) ?_
               refine AL.r (rd_load_bx rfl ag_3 rfl rfl rfl) ?_
               refine AL.r (rd_bin rfl rfl rfl (fun _ => rfl)) ?_
               refine AL.nil ?_
               change AW _ _ _ _ _
               refine AW.cd rfl (fun h173 => ?_) (fun h173 => ?_)
               ·skip
                refine AW.seq ?_
                refine AW.region ?_
                refine AL.r (rd_faddr_bx rfl fo_50_2 rfl rfl ⟨_, _, rfl⟩) ?_
                refine AL.r (rd_load_bx rfl ag_9 rfl rfl rfl) ?_
                refine AL.r (rd_seq rfl rfl rfl) ?_
                refine AL.rm ?_
                refine AL.fk (d := 177) rfl (fun h177 => ?_) (fun h177 => ?_)
                ·skip
                 refine AL.n ?_
                 refine AL.ro (rd_faddr_bx rfl fo_50_1 rfl rfl ⟨_, _, rfl⟩) ?_
                 refine AL.ro (rd_faddr_bx rfl fo_44_1 rfl rfl ⟨_, _, rfl⟩) ?_
                 refine AL.ro (rd_load_bx rfl ag_9 rfl rfl rfl) ?_
                 refine AL.ro (rd_sne rfl rfl rfl) ?_
                 refine AL.r (rd_pick_t rfl rfl rfl) ?_
                 refine AL.ra ?_
                 refine AL.nil ?_
                 change AW _ _ _ _ _
                 refine AW.ret ?_
                 change ResA _ _ _ _ _
                 refine res1 rfl (ResV.tmp rfl) rfl ?_
                 (refine congrArg (fun b => RS.s (AB b)) ?_; simp_all [rightV, refD_iff] <;> first | omega | exact beq_dec _ _ | exact emp_dec _ | (rw [Bool.eq_iff_iff]; simp; done) | (intros; omega))
                ·skip
                 refine AL.n ?_
                 refine AL.rf ?_
                 refine AL.rf ?_
                 refine AL.rf ?_
                 refine AL.rf ?_
                 refine AL.r (rd_pick_f rfl rfl rfl) ?_
                 refine AL.ra ?_
                 refine AL.nil ?_
                 change AW _ _ _ _ _
                 refine AW.ret ?_
                 change ResA _ _ _ _ _
                 refine res1 rfl (ResV.tmp rfl) rfl ?_
                 (refine congrArg (fun b => RS.s (AB b)) ?_; simp_all [rightV, refD_iff] <;> first | omega | exact beq_dec _ _ | exact emp_dec _ | (rw [Bool.eq_iff_iff]; simp; done) | (intros; omega))
               ·skip
                refine AW.skip ?_
                change AW _ _ _ _ _
                refine AW.seq ?_
                refine AW.region ?_
                refine AL.r (rd_faddr_bx rfl fo_50_0 rfl rfl ⟨_, _, rfl⟩) ?_
                refine AL.r (rd_load_bx rfl ag_3 rfl rfl rfl) ?_
                refine AL.r (rd_bin rfl rfl rfl (fun _ => rfl)) ?_
                refine AL.rm ?_
                refine AL.fk (d := 186) rfl (fun h186 => ?_) (fun h186 => ?_)
                ·skip
                 refine AL.n ?_
                 refine AL.ro (rd_faddr_bx rfl fo_50_1 rfl rfl ⟨_, _, rfl⟩) ?_
                 refine AL.ro (rd_faddr_bx rfl fo_44_1 rfl rfl ⟨_, _, rfl⟩) ?_
                 refine AL.ro (rd_load_bx rfl ag_9 rfl rfl rfl) ?_
                 refine AL.ro (rd_seq rfl rfl rfl) ?_
                 refine AL.r (rd_pick_t rfl rfl rfl) ?_
                 refine AL.rm ?_
                 refine AL.fk (d := 192) rfl (fun h192 => ?_) (fun h192 => ?_)
                 ·skip
                  refine AL.n ?_
                  refine AL.ro (rd_faddr_bx rfl fo_50_2 rfl rfl ⟨_, _, rfl⟩) ?_
                  refine AL.ro (rd_load_bx rfl ag_9 rfl rfl rfl) ?_
                  refine AL.on rfl rfl rfl (AOpB.op (op_call (rname_c x.name) rfl (by kernel_rfl) rfl (none) ?_))
                  rintro r rfl
                  refine AL.n ?_
                  refine AL.r (rd_pick_t rfl rfl rfl) ?_
                  refine AL.ra ?_
                  refine AL.nil ?_
                  change AW _ _ _ _ _
                  refine AW.ret ?_
                  change ResA _ _ _ _ _
                  refine res1 rfl (ResV.tmp rfl) rfl ?_
                  (refine congrArg (fun b => RS.s (AB b)) ?_; simp_all [rightV, refD_iff] <;> first | omega | exact beq_dec _ _ | exact emp_dec _ | (rw [Bool.eq_iff_iff]; simp; done) | (intros; omega))
                 ·skip
                  refine AL.n ?_
                  refine AL.rf ?_
                  refine AL.rf ?_
                  refine AL.rf ?_
                  refine AL.r (rd_pick_f rfl rfl rfl) ?_
                  refine AL.ra ?_
                  refine AL.nil ?_
                  change AW _ _ _ _ _
                  refine AW.ret ?_
                  change ResA _ _ _ _ _
                  refine res1 rfl (ResV.tmp rfl) rfl ?_
                  (refine congrArg (fun b => RS.s (AB b)) ?_; simp_all [rightV, refD_iff] <;> first | omega | exact beq_dec _ _ | exact emp_dec _ | (rw [Bool.eq_iff_iff]; simp; done) | (intros; omega))
                ·skip
                 refine AL.n ?_
                 refine AL.rf ?_
                 refine AL.rf ?_
                 refine AL.rf ?_
                 refine AL.rf ?_
                 refine AL.r (rd_pick_f rfl rfl rfl) ?_
                 refine AL.rm ?_
                 refine AL.rf ?_
                 refine AL.rf ?_
                 refine AL.rf ?_
                 refine AL.r (rd_pick_f rfl rfl rfl) ?_
                 refine AL.ra ?_
                 refine AL.nil ?_
                 change AW _ _ _ _ _
                 refine AW.ret ?_
                 change ResA _ _ _ _ _
                 refine res1 rfl (ResV.tmp rfl) rfl ?_
                 (refine congrArg (fun b => RS.s (AB b)) ?_; simp_all [rightV, refD_iff] <;> first | omega | exact beq_dec _ _ | exact emp_dec _ | (rw [Bool.eq_iff_iff]; simp; done) | (intros; omega))
end Go.Proofs.Ytdgcbhihmnhnaaa
