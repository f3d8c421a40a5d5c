/- Lenses: whether one is right, walked over abstract states. -/
import Derived.Test.YtdgcbhihmnhnaaaLenF
namespace Go.Proofs.Ytdgcbhihmnhnaaa
set_option linter.unusedSimpArgs false
set_option linter.unusedVariables false
set_option maxRecDepth 100000
open Go.RowKit

def kindL (x : LensD) : Bool :=
  if x.kind = 2 ∨ x.kind = 3 then rightF x.field else placeB x.at_ &&
    (if x.kind = 1 then nameB x.name else if x.kind = 4 then decide (x.at_.group ≠ []) else if x.kind = 5 then decide (x.at_.group = []) && nameB x.name
    else if x.kind = 6 ∨ x.kind = 9 then nameB x.name && nameB x.other && decide (x.name ≠ x.other) && (decide (2 ≤ x.factor) && decide (x.factor ≤ 1000))
    else if x.kind = 7 ∨ x.kind = 10 then decide (x.other.length ≤ 40) else tablesB x)
def rightL (x : LensD) : Bool := (partsL x).2 && decide (x = (partsL x).1) && kindL x
theorem rightL_f1 {x : LensD} (h : (partsL x).2 = false) : rightL x = false := by unfold rightL; rw [h]; rfl
theorem rightL_f2 {x : LensD} (h : ¬ x = (partsL x).1) : rightL x = false := by unfold rightL; rw [decide_eq_false h, Bool.and_false]; rfl
theorem rightL_t {x : LensD} (h1 : (partsL x).2 = true) (h : x = (partsL x).1) : rightL x = kindL x := by unfold rightL; rw [h1, decide_eq_true h]; rfl
theorem emp_dec (l : Bytes) : l.isEmpty = decide (l = []) := by cases l <;> simp
set_option maxHeartbeats 2000000 in
theorem lright_c (x : LensD) : AC Try.prog 58 [x.av] (fun r => r = .s (AB (rightL x))) := by
  change AC _ _ [.ag [AI x.kind, AI x.at_.scope, AS x.at_.group, AS x.at_.name, AS x.name, AS x.other, AI x.factor, AI x.field.at_.scope, AS x.field.at_.group, AS x.field.at_.name, AI x.field.kind, AS x.field.dflt, .sl (csS x.field.cases), AI x.field.worth, .sl (x.forth.map PairD.cs), .sl (x.back.map PairD.cs)]] _
  refine AC.of' 87 2 Try.func58 rfl ?_
  change AW _ _ _ _ [TK.mk 0 .off, TK.mk 0 .off]
  refine AW.seq ?_
  refine AW.region ?_
  refine AL.op rfl (AOpB.op (op_box 0 rfl rfl rfl rfl rfl ?_))
  refine AL.n ?_
  refine AL.ra ?_
  refine AL.nil ?_
  change AW _ _ _ _ _
  refine AW.seq ?_
  refine AW.region ?_
  refine AL.r (rd_loadN_bx rfl ag_50 rfl rfl (Nat.le_of_ble_eq_true rfl) rfl) ?_
  refine AL.op rfl (AOpB.op (op_call (lparts_c x) rfl (by kernel_rfl) rfl (none) ?_))
  rintro r rfl
  refine AL.n ?_
  generalize hy : (partsL x).1 = y; rw [show y.av = AV.ag [AI y.kind, AI y.at_.scope, AS y.at_.group, AS y.at_.name, AS y.name, AS y.other, AI y.factor, AI y.field.at_.scope, AS y.field.at_.group, AS y.field.at_.name, AI y.field.kind, AS y.field.dflt, .sl (csS y.field.cases), AI y.field.worth, .sl (y.forth.map PairD.cs), .sl (y.back.map PairD.cs)] from rfl]
  refine AL.rm ?_
  refine AL.r (rd_extract rfl rfl rfl) ?_
  refine AL.r (rd_extract rfl rfl rfl) ?_
  refine AL.op rfl (AOpB.op (op_alloc 1 rfl ze_50 rfl ?_))
  refine AL.n ?_
  refine AL.op rfl (op_store_ rfl rfl rfl rfl rfl sz_50 ?_)
  refine AL.b ?_
  refine AL.ra ?_
  refine AL.nil ?_
  change AW _ _ _ _ _
  refine AW.seq ?_
  refine AW.seq ?_
  refine AW.region ?_
  refine AL.rm ?_
  refine AL.r (rd_un rfl rfl (fun _ => rfl)) ?_
  refine AL.rm ?_
  refine AL.fk (d := 12) rfl (fun h12 => ?_) (fun h12 => ?_)
  ·skip
   refine AL.n ?_
   refine AL.rf ?_
   refine AL.rf ?_
   refine AL.rf ?_
   refine AL.rf ?_
   refine AL.r (rd_pick_t rfl rfl rfl) ?_
   refine AL.nil ?_
   change AW _ _ _ _ _
   refine AW.cond_t rfl ?_
   refine AW.seq ?_
   refine AW.region ?_
   refine AL.ra ?_
   refine AL.nil ?_
   change AW _ _ _ _ _
   refine AW.ret ?_
   change ResA _ _ _ _ _
   refine res1 rfl (ResV.tmp rfl) rfl ?_
   (refine congrArg (fun b => RS.s (AB b)) ?_; subst hy; first | rw [rightL_f1 h12] | rw [rightL_f2 h17])
  ·skip
   refine AL.n ?_
   refine AL.ro (rd_loadN_bx rfl ag_50 rfl rfl (Nat.le_of_ble_eq_true rfl) rfl) ?_
   refine AL.ro (rd_loadN_bx rfl ag_50 rfl rfl (Nat.le_of_ble_eq_true rfl) rfl) ?_
   refine AL.on rfl rfl rfl (AOpB.op (op_call (lsame_c x y) rfl (by kernel_rfl) rfl (none) ?_))
   rintro r rfl
   refine AL.n ?_
   refine AL.ro (rd_un rfl rfl (fun _ => rfl)) ?_
   refine AL.r (rd_pick_f rfl rfl rfl) ?_
   refine AL.nil ?_
   change AW _ _ _ _ _
   refine AW.cd rfl (fun h17 => ?_) (fun h17 => ?_)
   ·skip
    refine AW.seq ?_
    refine AW.region ?_
    refine AL.ra ?_
    refine AL.nil ?_
    change AW _ _ _ _ _
    refine AW.ret ?_
    change ResA _ _ _ _ _
    refine res1 rfl (ResV.tmp rfl) rfl ?_
    (refine congrArg (fun b => RS.s (AB b)) ?_; subst hy; first | rw [rightL_f1 h12] | rw [rightL_f2 h17])
   ·skip
    refine AW.skip ?_
    change AW _ _ _ _ _
    refine AW.seq ?_
    refine AW.seq ?_
    refine AW.region ?_
    refine AL.r (rd_faddr_bx rfl fo_50_0 rfl rfl ⟨_, _, rfl⟩) ?_
    refine AL.r (rd_load_bx rfl ag_3 rfl rfl rfl) ?_
    refine AL.r (rd_bin rfl rfl rfl (fun _ => rfl)) ?_
    refine AL.rm ?_
    refine AL.fk (d := 21) rfl (fun h21 => ?_) (fun h21 => ?_)
    ·skip
     refine AL.n ?_
     refine AL.rf ?_
     refine AL.rf ?_
     refine AL.rf ?_
     refine AL.r (rd_pick_t rfl rfl rfl) ?_
     refine AL.nil ?_
     change AW _ _ _ _ _
     refine AW.cond_t rfl ?_
     refine AW.seq ?_
     refine AW.region ?_
     refine AL.r (rd_faddr_bx rfl fo_50_5 rfl rfl ⟨_, _, rfl⟩) ?_
     refine AL.r (rd_loadN_bx rfl ag_47 rfl rfl (Nat.le_of_ble_eq_true rfl) rfl) ?_
     refine AL.op rfl (AOpB.op (op_call (right_c x.field) rfl (by kernel_rfl) rfl (none) ?_))
     rintro r rfl
     refine AL.n ?_
     refine AL.ra ?_
     refine AL.nil ?_
     change AW _ _ _ _ _
     refine AW.ret ?_
     change ResA _ _ _ _ _
     refine res1 rfl (ResV.tmp rfl) rfl ?_
     (refine congrArg (fun b => RS.s (AB b)) ?_; subst hy; rw [rightL_t h12 h17]; clear h12 h17; simp_all [kindL] <;> exact emp_dec _)
    ·skip
     refine AL.n ?_
     refine AL.ro (rd_faddr_bx rfl fo_50_0 rfl rfl ⟨_, _, rfl⟩) ?_
     refine AL.ro (rd_load_bx rfl ag_3 rfl rfl rfl) ?_
     refine AL.ro (rd_bin rfl rfl rfl (fun _ => rfl)) ?_
     refine AL.r (rd_pick_f rfl rfl rfl) ?_
     refine AL.nil ?_
     change AW _ _ _ _ _
     refine AW.cd rfl (fun h25 => ?_) (fun h25 => ?_)
     ·skip
      refine AW.seq ?_
      refine AW.region ?_
      refine AL.r (rd_faddr_bx rfl fo_50_5 rfl rfl ⟨_, _, rfl⟩) ?_
      refine AL.r (rd_loadN_bx rfl ag_47 rfl rfl (Nat.le_of_ble_eq_true rfl) rfl) ?_
      refine AL.op rfl (AOpB.op (op_call (right_c x.field) rfl (by kernel_rfl) rfl (none) ?_))
      rintro r rfl
      refine AL.n ?_
      refine AL.ra ?_
      refine AL.nil ?_
      change AW _ _ _ _ _
      refine AW.ret ?_
      change ResA _ _ _ _ _
      refine res1 rfl (ResV.tmp rfl) rfl ?_
      (refine congrArg (fun b => RS.s (AB b)) ?_; subst hy; rw [rightL_t h12 h17]; clear h12 h17; simp_all [kindL] <;> exact emp_dec _)
     ·skip
      refine AW.skip ?_
      change AW _ _ _ _ _
      refine AW.seq ?_
      refine AW.seq ?_
      refine AW.region ?_
      refine AL.r (rd_faddr_bx rfl fo_50_1 rfl rfl ⟨_, _, rfl⟩) ?_
      refine AL.r (rd_loadN_bx rfl ag_44 rfl rfl (Nat.le_of_ble_eq_true rfl) rfl) ?_
      refine AL.op rfl (AOpB.op (op_call (place_c x.at_) rfl (by kernel_rfl) rfl (none) ?_))
      rintro r rfl
      refine AL.n ?_
      refine AL.r (rd_un rfl rfl (fun _ => rfl)) ?_
      refine AL.nil ?_
      change AW _ _ _ _ _
      refine AW.cd rfl (fun h32 => ?_) (fun h32 => ?_)
      ·skip
       refine AW.seq ?_
       refine AW.region ?_
       refine AL.ra ?_
       refine AL.nil ?_
       change AW _ _ _ _ _
       refine AW.ret ?_
       change ResA _ _ _ _ _
       refine res1 rfl (ResV.tmp rfl) rfl ?_
       (refine congrArg (fun b => RS.s (AB b)) ?_; subst hy; rw [rightL_t h12 h17]; clear h12 h17; simp_all [kindL] <;> exact emp_dec _)
      ·skip
       refine AW.skip ?_
       change AW _ _ _ _ _
       refine AW.seq ?_
       refine AW.seq ?_
       refine AW.region ?_
       refine AL.r (rd_faddr_bx rfl fo_50_0 rfl rfl ⟨_, _, rfl⟩) ?_
       refine AL.r (rd_load_bx rfl ag_3 rfl rfl rfl) ?_
       refine AL.nil ?_
       change AW _ _ _ _ _
       refine AW.block ?_
       refine AW.seq ?_
       refine AW.region ?_
       refine AL.r (rd_bin rfl rfl rfl (fun _ => rfl)) ?_
       refine AL.ra ?_
       refine AL.nil ?_
       change AW _ _ _ _ _
       refine AW.cd rfl (fun h35 => ?_) (fun h35 => ?_)
       ·skip
        refine AW.seq ?_
        refine AW.region ?_
        refine AL.r (rd_faddr_bx rfl fo_50_2 rfl rfl ⟨_, _, rfl⟩) ?_
        refine AL.r (rd_load_bx rfl ag_9 rfl rfl rfl) ?_
        refine AL.op rfl (AOpB.op (op_call (name_c x.name) rfl (by kernel_rfl) rfl (none) ?_))
        rintro r rfl
        refine AL.n ?_
        refine AL.ra ?_
        refine AL.nil ?_
        change AW _ _ _ _ _
        refine AW.ret ?_
        change ResA _ _ _ _ _
        refine res1 rfl (ResV.tmp rfl) rfl ?_
        (refine congrArg (fun b => RS.s (AB b)) ?_; subst hy; rw [rightL_t h12 h17]; clear h12 h17; simp_all [kindL] <;> exact emp_dec _)
       ·skip
        refine AW.seq ?_
        refine AW.region ?_
        refine AL.r (rd_bin rfl rfl rfl (fun _ => rfl)) ?_
        refine AL.ra ?_
        refine AL.nil ?_
        change AW _ _ _ _ _
        refine AW.cd rfl (fun h40 => ?_) (fun h40 => ?_)
        ·skip
         refine AW.seq ?_
         refine AW.region ?_
         refine AL.r (rd_faddr_bx rfl fo_50_1 rfl rfl ⟨_, _, rfl⟩) ?_
         refine AL.r (rd_faddr_bx rfl fo_44_1 rfl rfl ⟨_, _, rfl⟩) ?_
         refine AL.r (rd_load_bx rfl ag_9 rfl rfl rfl) ?_
         refine AL.r (rd_sne rfl rfl rfl) ?_
         refine AL.ra ?_
         refine AL.nil ?_
         change AW _ _ _ _ _
         refine AW.ret ?_
         change ResA _ _ _ _ _
         refine res1 rfl (ResV.tmp rfl) rfl ?_
         (refine congrArg (fun b => RS.s (AB b)) ?_; subst hy; rw [rightL_t h12 h17]; clear h12 h17; simp_all [kindL] <;> exact emp_dec _)
        ·skip
         refine AW.seq ?_
         refine AW.region ?_
         refine AL.r (rd_bin rfl rfl rfl (fun _ => rfl)) ?_
         refine AL.ra ?_
         refine AL.nil ?_
         change AW _ _ _ _ _
         refine AW.cd rfl (fun h46 => ?_) (fun h46 => ?_)
         ·skip
          refine AW.seq ?_
          refine AW.region ?_
          refine AL.r (rd_faddr_bx rfl fo_50_1 rfl rfl ⟨_, _, rfl⟩) ?_
          refine AL.r (rd_faddr_bx rfl fo_44_1 rfl rfl ⟨_, _, rfl⟩) ?_
          refine AL.r (rd_load_bx rfl ag_9 rfl rfl rfl) ?_
          refine AL.r (rd_seq rfl rfl rfl) ?_
          refine AL.rm ?_
          refine AL.fk (d := 52) rfl (fun h52 => ?_) (fun h52 => ?_)
          ·skip
           refine AL.n ?_
           refine AL.ro (rd_faddr_bx rfl fo_50_2 rfl rfl ⟨_, _, rfl⟩) ?_
           refine AL.ro (rd_load_bx rfl ag_9 rfl rfl rfl) ?_
           refine AL.on rfl rfl rfl (AOpB.op (op_call (name_c x.name) rfl (by kernel_rfl) rfl (none) ?_))
           rintro r rfl
           refine AL.n ?_
           refine AL.r (rd_pick_t rfl rfl rfl) ?_
           refine AL.ra ?_
           refine AL.nil ?_
           change AW _ _ _ _ _
           refine AW.ret ?_
           change ResA _ _ _ _ _
           refine res1 rfl (ResV.tmp rfl) rfl ?_
           (refine congrArg (fun b => RS.s (AB b)) ?_; subst hy; rw [rightL_t h12 h17]; clear h12 h17; simp_all [kindL] <;> exact emp_dec _)
          ·skip
           refine AL.n ?_
           refine AL.rf ?_
           refine AL.rf ?_
           refine AL.rf ?_
           refine AL.r (rd_pick_f rfl rfl rfl) ?_
           refine AL.ra ?_
           refine AL.nil ?_
           change AW _ _ _ _ _
           refine AW.ret ?_
           change ResA _ _ _ _ _
           refine res1 rfl (ResV.tmp rfl) rfl ?_
           (refine congrArg (fun b => RS.s (AB b)) ?_; subst hy; rw [rightL_t h12 h17]; clear h12 h17; simp_all [kindL] <;> exact emp_dec _)
         ·skip
          refine AW.seq ?_
          refine AW.seq ?_
          refine AW.region ?_
          refine AL.r (rd_bin rfl rfl rfl (fun _ => rfl)) ?_
          refine AL.ra ?_
          refine AL.nil ?_
          change AW _ _ _ _ _
          refine AW.cd rfl (fun h57 => ?_) (fun h57 => ?_)
          ·skip
           refine AW.skip ?_
           change AW _ _ _ _ _
           refine AW.cd rfl (fun h57 => ?_) (fun h57 => ?_)
           ·skip
            refine AW.seq ?_
            refine AW.region ?_
            refine AL.r (rd_faddr_bx rfl fo_50_2 rfl rfl ⟨_, _, rfl⟩) ?_
            refine AL.r (rd_load_bx rfl ag_9 rfl rfl rfl) ?_
            refine AL.op rfl (AOpB.op (op_call (name_c x.name) rfl (by kernel_rfl) rfl (none) ?_))
            rintro r rfl
            refine AL.n ?_
            refine AL.rm ?_
            refine AL.fk (d := 63) rfl (fun h63 => ?_) (fun h63 => ?_)
            ·skip
             refine AL.n ?_
             refine AL.ro (rd_faddr_bx rfl fo_50_3 rfl rfl ⟨_, _, rfl⟩) ?_
             refine AL.ro (rd_load_bx rfl ag_9 rfl rfl rfl) ?_
             refine AL.on rfl rfl rfl (AOpB.op (op_call (name_c x.other) rfl (by kernel_rfl) rfl (none) ?_))
             rintro r rfl
             refine AL.n ?_
             refine AL.r (rd_pick_t rfl rfl rfl) ?_
             refine AL.rm ?_
             refine AL.fk (d := 68) rfl (fun h68 => ?_) (fun h68 => ?_)
             ·skip
              refine AL.n ?_
              refine AL.ro (rd_faddr_bx rfl fo_50_2 rfl rfl ⟨_, _, rfl⟩) ?_
              refine AL.ro (rd_load_bx rfl ag_9 rfl rfl rfl) ?_
              refine AL.ro (rd_faddr_bx rfl fo_50_3 rfl rfl ⟨_, _, rfl⟩) ?_
              refine AL.ro (rd_load_bx rfl ag_9 rfl rfl rfl) ?_
              refine AL.ro (rd_sne rfl rfl rfl) ?_
              refine AL.r (rd_pick_t rfl rfl rfl) ?_
              refine AL.rm ?_
              refine AL.fk (d := 75) rfl (fun h75 => ?_) (fun h75 => ?_)
              ·skip
               refine AL.n ?_
               refine AL.ro (rd_faddr_bx rfl fo_50_4 rfl rfl ⟨_, _, rfl⟩) ?_
               refine AL.ro (rd_load_bx rfl ag_2 rfl rfl rfl) ?_
               refine AL.on rfl rfl rfl (AOpB.op (op_call (factor_c x.factor) rfl (by kernel_rfl) rfl (none) ?_))
               rintro r rfl
               refine AL.n ?_
               refine AL.r (rd_pick_t rfl rfl rfl) ?_
               refine AL.ra ?_
               refine AL.nil ?_
               change AW _ _ _ _ _
               refine AW.ret ?_
               change ResA _ _ _ _ _
               refine res1 rfl (ResV.tmp rfl) rfl ?_
               (refine congrArg (fun b => RS.s (AB b)) ?_; subst hy; rw [rightL_t h12 h17]; clear h12 h17; simp_all [kindL] <;> exact emp_dec _)
              ·skip
               refine AL.n ?_
               refine AL.rf ?_
               refine AL.rf ?_
               refine AL.rf ?_
               refine AL.r (rd_pick_f rfl rfl rfl) ?_
               refine AL.ra ?_
               refine AL.nil ?_
               change AW _ _ _ _ _
               refine AW.ret ?_
               change ResA _ _ _ _ _
               refine res1 rfl (ResV.tmp rfl) rfl ?_
               (refine congrArg (fun b => RS.s (AB b)) ?_; subst hy; rw [rightL_t h12 h17]; clear h12 h17; simp_all [kindL] <;> exact emp_dec _)
             ·skip
              refine AL.n ?_
              refine AL.rf ?_
              refine AL.rf ?_
              refine AL.rf ?_
              refine AL.rf ?_
              refine AL.rf ?_
              refine AL.r (rd_pick_f rfl rfl rfl) ?_
              refine AL.rm ?_
              refine AL.rf ?_
              refine AL.rf ?_
              refine AL.rf ?_
              refine AL.r (rd_pick_f rfl rfl rfl) ?_
              refine AL.ra ?_
              refine AL.nil ?_
              change AW _ _ _ _ _
              refine AW.ret ?_
              change ResA _ _ _ _ _
              refine res1 rfl (ResV.tmp rfl) rfl ?_
              (refine congrArg (fun b => RS.s (AB b)) ?_; subst hy; rw [rightL_t h12 h17]; clear h12 h17; simp_all [kindL] <;> exact emp_dec _)
            ·skip
             refine AL.n ?_
             refine AL.rf ?_
             refine AL.rf ?_
             refine AL.rf ?_
             refine AL.r (rd_pick_f rfl rfl rfl) ?_
             refine AL.rm ?_
             refine AL.rf ?_
             refine AL.rf ?_
             refine AL.rf ?_
             refine AL.rf ?_
             refine AL.rf ?_
             refine AL.r (rd_pick_f rfl rfl rfl) ?_
             refine AL.rm ?_
             refine AL.rf ?_
             refine AL.rf ?_
             refine AL.rf ?_
             refine AL.r (rd_pick_f rfl rfl rfl) ?_
             refine AL.ra ?_
             refine AL.nil ?_
             change AW _ _ _ _ _
             refine AW.ret ?_
             change ResA _ _ _ _ _
             refine res1 rfl (ResV.tmp rfl) rfl ?_
             (refine congrArg (fun b => RS.s (AB b)) ?_; subst hy; rw [rightL_t h12 h17]; clear h12 h17; simp_all [kindL] <;> exact emp_dec _)
           ·skip
            refine AW.seq ?_
            refine AW.seq ?_
            refine AW.region ?_
            refine AL.r (rd_bin rfl rfl rfl (fun _ => rfl)) ?_
            refine AL.ra ?_
            refine AL.nil ?_
            change AW _ _ _ _ _
            refine AW.cd rfl (fun h80 => ?_) (fun h80 => ?_)
            ·skip
             refine AW.skip ?_
             change AW _ _ _ _ _
             refine AW.cd rfl (fun h80 => ?_) (fun h80 => ?_)
             ·skip
              refine AW.seq ?_
              refine AW.region ?_
              refine AL.r (rd_faddr_bx rfl fo_50_3 rfl rfl ⟨_, _, rfl⟩) ?_
              refine AL.r (rd_load_bx rfl ag_9 rfl rfl rfl) ?_
              refine AL.op rfl (AOpB.op (op_call (text_c x.other) rfl (by kernel_rfl) rfl (none) ?_))
              rintro r rfl
              refine AL.n ?_
              refine AL.ra ?_
              refine AL.nil ?_
              change AW _ _ _ _ _
              refine AW.ret ?_
              change ResA _ _ _ _ _
              refine res1 rfl (ResV.tmp rfl) rfl ?_
              (refine congrArg (fun b => RS.s (AB b)) ?_; subst hy; rw [rightL_t h12 h17]; clear h12 h17; simp_all [kindL] <;> exact emp_dec _)
             ·skip
              refine AW.skip ?_
              change AW _ _ _ _ _
              refine AW.seq ?_
              refine AW.region ?_
              refine AL.r (rd_loadN_bx rfl ag_50 rfl rfl (Nat.le_of_ble_eq_true rfl) rfl) ?_
              refine AL.op rfl (AOpB.op (op_call (rtables_c x) rfl (by kernel_rfl) rfl (none) ?_))
              rintro r rfl
              refine AL.n ?_
              refine AL.ra ?_
              refine AL.nil ?_
              change AW _ _ _ _ _
              refine AW.ret ?_
              change ResA _ _ _ _ _
              refine res1 rfl (ResV.tmp rfl) rfl ?_
              (refine congrArg (fun b => RS.s (AB b)) ?_; subst hy; rw [rightL_t h12 h17]; clear h12 h17; simp_all [kindL] <;> exact emp_dec _)
            ·skip
             refine AW.region ?_
             refine AL.r (rd_bin rfl rfl rfl (fun _ => rfl)) ?_
             refine AL.ra ?_
             refine AL.nil ?_
             change AW _ _ _ _ _
             refine AW.cd rfl (fun h80 => ?_) (fun h80 => ?_)
             ·skip
              refine AW.seq ?_
              refine AW.region ?_
              refine AL.r (rd_faddr_bx rfl fo_50_3 rfl rfl ⟨_, _, rfl⟩) ?_
              refine AL.r (rd_load_bx rfl ag_9 rfl rfl rfl) ?_
              refine AL.op rfl (AOpB.op (op_call (text_c x.other) rfl (by kernel_rfl) rfl (none) ?_))
              rintro r rfl
              refine AL.n ?_
              refine AL.ra ?_
              refine AL.nil ?_
              change AW _ _ _ _ _
              refine AW.ret ?_
              change ResA _ _ _ _ _
              refine res1 rfl (ResV.tmp rfl) rfl ?_
              (refine congrArg (fun b => RS.s (AB b)) ?_; subst hy; rw [rightL_t h12 h17]; clear h12 h17; simp_all [kindL] <;> exact emp_dec _)
             ·skip
              refine AW.skip ?_
              change AW _ _ _ _ _
              refine AW.seq ?_
              refine AW.region ?_
              refine AL.r (rd_loadN_bx rfl ag_50 rfl rfl (Nat.le_of_ble_eq_true rfl) rfl) ?_
              refine AL.op rfl (AOpB.op (op_call (rtables_c x) rfl (by kernel_rfl) rfl (none) ?_))
              rintro r rfl
              refine AL.n ?_
              refine AL.ra ?_
              refine AL.nil ?_
              change AW _ _ _ _ _
              refine AW.ret ?_
              change ResA _ _ _ _ _
              refine res1 rfl (ResV.tmp rfl) rfl ?_
              (refine congrArg (fun b => RS.s (AB b)) ?_; subst hy; rw [rightL_t h12 h17]; clear h12 h17; simp_all [kindL] <;> exact emp_dec _)
          ·skip
           refine AW.region ?_
           refine AL.r (rd_bin rfl rfl rfl (fun _ => rfl)) ?_
           refine AL.ra ?_
           refine AL.nil ?_
           change AW _ _ _ _ _
           refine AW.cd rfl (fun h57 => ?_) (fun h57 => ?_)
           ·skip
            refine AW.seq ?_
            refine AW.region ?_
            refine AL.r (rd_faddr_bx rfl fo_50_2 rfl rfl ⟨_, _, rfl⟩) ?_
            refine AL.r (rd_load_bx rfl ag_9 rfl rfl rfl) ?_
            refine AL.op rfl (AOpB.op (op_call (name_c x.name) rfl (by kernel_rfl) rfl (none) ?_))
            rintro r rfl
            refine AL.n ?_
            refine AL.rm ?_
            refine AL.fk (d := 63) rfl (fun h63 => ?_) (fun h63 => ?_)
            ·skip
             refine AL.n ?_
             refine AL.ro (rd_faddr_bx rfl fo_50_3 rfl rfl ⟨_, _, rfl⟩) ?_
             refine AL.ro (rd_load_bx rfl ag_9 rfl rfl rfl) ?_
             refine AL.on rfl rfl rfl (AOpB.op (op_call (name_c x.other) rfl (by kernel_rfl) rfl (none) ?_))
             rintro r rfl
             refine AL.n ?_
             refine AL.r (rd_pick_t rfl rfl rfl) ?_
             refine AL.rm ?_
             refine AL.fk (d := 68) rfl (fun h68 => ?_) (fun h68 => ?_)
             ·skip
              refine AL.n ?_
              refine AL.ro (rd_faddr_bx rfl fo_50_2 rfl rfl ⟨_, _, rfl⟩) ?_
              refine AL.ro (rd_load_bx rfl ag_9 rfl rfl rfl) ?_
              refine AL.ro (rd_faddr_bx rfl fo_50_3 rfl rfl ⟨_, _, rfl⟩) ?_
              refine AL.ro (rd_load_bx rfl ag_9 rfl rfl rfl) ?_
              refine AL.ro (rd_sne rfl rfl rfl) ?_
              refine AL.r (rd_pick_t rfl rfl rfl) ?_
              refine AL.rm ?_
              refine AL.fk (d := 75) rfl (fun h75 => ?_) (fun h75 => ?_)
              ·skip
               refine AL.n ?_
               refine AL.ro (rd_faddr_bx rfl fo_50_4 rfl rfl ⟨_, _, rfl⟩) ?_
               refine AL.ro (rd_load_bx rfl ag_2 rfl rfl rfl) ?_
               refine AL.on rfl rfl rfl (AOpB.op (op_call (factor_c x.factor) rfl (by kernel_rfl) rfl (none) ?_))
               rintro r rfl
               refine AL.n ?_
               refine AL.r (rd_pick_t rfl rfl rfl) ?_
               refine AL.ra ?_
               refine AL.nil ?_
               change AW _ _ _ _ _
               refine AW.ret ?_
               change ResA _ _ _ _ _
               refine res1 rfl (ResV.tmp rfl) rfl ?_
               (refine congrArg (fun b => RS.s (AB b)) ?_; subst hy; rw [rightL_t h12 h17]; clear h12 h17; simp_all [kindL] <;> exact emp_dec _)
              ·skip
               refine AL.n ?_
               refine AL.rf ?_
               refine AL.rf ?_
               refine AL.rf ?_
               refine AL.r (rd_pick_f rfl rfl rfl) ?_
               refine AL.ra ?_
               refine AL.nil ?_
               change AW _ _ _ _ _
               refine AW.ret ?_
               change ResA _ _ _ _ _
               refine res1 rfl (ResV.tmp rfl) rfl ?_
               (refine congrArg (fun b => RS.s (AB b)) ?_; subst hy; rw [rightL_t h12 h17]; clear h12 h17; simp_all [kindL] <;> exact emp_dec _)
             ·skip
              refine AL.n ?_
              refine AL.rf ?_
              refine AL.rf ?_
              refine AL.rf ?_
              refine AL.rf ?_
              refine AL.rf ?_
              refine AL.r (rd_pick_f rfl rfl rfl) ?_
              refine AL.rm ?_
              refine AL.rf ?_
              refine AL.rf ?_
              refine AL.rf ?_
              refine AL.r (rd_pick_f rfl rfl rfl) ?_
              refine AL.ra ?_
              refine AL.nil ?_
              change AW _ _ _ _ _
              refine AW.ret ?_
              change ResA _ _ _ _ _
              refine res1 rfl (ResV.tmp rfl) rfl ?_
              (refine congrArg (fun b => RS.s (AB b)) ?_; subst hy; rw [rightL_t h12 h17]; clear h12 h17; simp_all [kindL] <;> exact emp_dec _)
            ·skip
             refine AL.n ?_
             refine AL.rf ?_
             refine AL.rf ?_
             refine AL.rf ?_
             refine AL.r (rd_pick_f rfl rfl rfl) ?_
             refine AL.rm ?_
             refine AL.rf ?_
             refine AL.rf ?_
             refine AL.rf ?_
             refine AL.rf ?_
             refine AL.rf ?_
             refine AL.r (rd_pick_f rfl rfl rfl) ?_
             refine AL.rm ?_
             refine AL.rf ?_
             refine AL.rf ?_
             refine AL.rf ?_
             refine AL.r (rd_pick_f rfl rfl rfl) ?_
             refine AL.ra ?_
             refine AL.nil ?_
             change AW _ _ _ _ _
             refine AW.ret ?_
             change ResA _ _ _ _ _
             refine res1 rfl (ResV.tmp rfl) rfl ?_
             (refine congrArg (fun b => RS.s (AB b)) ?_; subst hy; rw [rightL_t h12 h17]; clear h12 h17; simp_all [kindL] <;> exact emp_dec _)
           ·skip
            refine AW.seq ?_
            refine AW.seq ?_
            refine AW.region ?_
            refine AL.r (rd_bin rfl rfl rfl (fun _ => rfl)) ?_
            refine AL.ra ?_
            refine AL.nil ?_
            change AW _ _ _ _ _
            refine AW.cd rfl (fun h80 => ?_) (fun h80 => ?_)
            ·skip
             refine AW.skip ?_
             change AW _ _ _ _ _
             refine AW.cd rfl (fun h80 => ?_) (fun h80 => ?_)
             ·skip
              refine AW.seq ?_
              refine AW.region ?_
              refine AL.r (rd_faddr_bx rfl fo_50_3 rfl rfl ⟨_, _, rfl⟩) ?_
              refine AL.r (rd_load_bx rfl ag_9 rfl rfl rfl) ?_
              refine AL.op rfl (AOpB.op (op_call (text_c x.other) rfl (by kernel_rfl) rfl (none) ?_))
              rintro r rfl
              refine AL.n ?_
              refine AL.ra ?_
              refine AL.nil ?_
              change AW _ _ _ _ _
              refine AW.ret ?_
              change ResA _ _ _ _ _
              refine res1 rfl (ResV.tmp rfl) rfl ?_
              (refine congrArg (fun b => RS.s (AB b)) ?_; subst hy; rw [rightL_t h12 h17]; clear h12 h17; simp_all [kindL] <;> exact emp_dec _)
             ·skip
              refine AW.skip ?_
              change AW _ _ _ _ _
              refine AW.seq ?_
              refine AW.region ?_
              refine AL.r (rd_loadN_bx rfl ag_50 rfl rfl (Nat.le_of_ble_eq_true rfl) rfl) ?_
              refine AL.op rfl (AOpB.op (op_call (rtables_c x) rfl (by kernel_rfl) rfl (none) ?_))
              rintro r rfl
              refine AL.n ?_
              refine AL.ra ?_
              refine AL.nil ?_
              change AW _ _ _ _ _
              refine AW.ret ?_
              change ResA _ _ _ _ _
              refine res1 rfl (ResV.tmp rfl) rfl ?_
              (refine congrArg (fun b => RS.s (AB b)) ?_; subst hy; rw [rightL_t h12 h17]; clear h12 h17; simp_all [kindL] <;> exact emp_dec _)
            ·skip
             refine AW.region ?_
             refine AL.r (rd_bin rfl rfl rfl (fun _ => rfl)) ?_
             refine AL.ra ?_
             refine AL.nil ?_
             change AW _ _ _ _ _
             refine AW.cd rfl (fun h80 => ?_) (fun h80 => ?_)
             ·skip
              refine AW.seq ?_
              refine AW.region ?_
              refine AL.r (rd_faddr_bx rfl fo_50_3 rfl rfl ⟨_, _, rfl⟩) ?_
              refine AL.r (rd_load_bx rfl ag_9 rfl rfl rfl) ?_
              refine AL.op rfl (AOpB.op (op_call (text_c x.other) rfl (by kernel_rfl) rfl (none) ?_))
              rintro r rfl
              refine AL.n ?_
              refine AL.ra ?_
              refine AL.nil ?_
              change AW _ _ _ _ _
              refine AW.ret ?_
              change ResA _ _ _ _ _
              refine res1 rfl (ResV.tmp rfl) rfl ?_
              (refine congrArg (fun b => RS.s (AB b)) ?_; subst hy; rw [rightL_t h12 h17]; clear h12 h17; simp_all [kindL] <;> exact emp_dec _)
             ·skip
              refine AW.skip ?_
              change AW _ _ _ _ _
              refine AW.seq ?_
              refine AW.region ?_
              refine AL.r (rd_loadN_bx rfl ag_50 rfl rfl (Nat.le_of_ble_eq_true rfl) rfl) ?_
              refine AL.op rfl (AOpB.op (op_call (rtables_c x) rfl (by kernel_rfl) rfl (none) ?_))
              rintro r rfl
              refine AL.n ?_
              refine AL.ra ?_
              refine AL.nil ?_
              change AW _ _ _ _ _
              refine AW.ret ?_
              change ResA _ _ _ _ _
              refine res1 rfl (ResV.tmp rfl) rfl ?_
              (refine congrArg (fun b => RS.s (AB b)) ?_; subst hy; rw [rightL_t h12 h17]; clear h12 h17; simp_all [kindL] <;> exact emp_dec _)
end Go.Proofs.Ytdgcbhihmnhnaaa
