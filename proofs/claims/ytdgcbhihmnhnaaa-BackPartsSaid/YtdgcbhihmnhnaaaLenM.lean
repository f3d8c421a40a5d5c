/- The way back of a lens, the reference, and the chapter's example, walked over abstract states. -/
import Derived.Test.YtdgcbhihmnhnaaaLenL
import Derived.Test.YtdgcbhihmnhnaaaLenN
namespace Go.Proofs.Ytdgcbhihmnhnaaa
set_option linter.unusedSimpArgs false
set_option linter.unusedVariables false
set_option maxRecDepth 100000
set_option maxRecDepth 100000
open Go.RowKit

set_option maxHeartbeats 4000000 in
theorem rinv_c (x : LensD) (h : x.Small) : AC Try.prog 67 [x.av] (fun r => r = .s (.tu [(invP x).1.av, AI (invP x).2])) := by
  change AC _ _ [.ag [AI x.kind, AI x.at_.scope, AS x.at_.group, AS x.at_.name, AS x.name, AS x.other, AI x.factor, AI x.field.at_.scope, AS x.field.at_.group, AS x.field.at_.name, AI x.field.kind, AS x.field.dflt, .sl (csS x.field.cases), AI x.field.worth, .sl (x.forth.map PairD.cs), .sl (x.back.map PairD.cs)]] _
  refine AC.of' 64 3 Try.func67 rfl ?_
  change AW _ _ _ _ [TK.mk 0 .off, TK.mk 0 .off, TK.mk 0 .off]
  refine AW.seq ?_
  refine AW.region ?_
  refine AL.op rfl (AOpB.op (op_box 0 rfl rfl rfl rfl rfl ?_))
  refine AL.n ?_
  refine AL.op rfl (AOpB.op (op_alloc 1 rfl ze_50 rfl ?_))
  refine AL.n ?_
  refine AL.ra ?_
  refine AL.nil ?_
  change AW _ _ _ _ _
  refine AW.seq ?_
  refine AW.seq ?_
  refine AW.region ?_
  refine AL.r (rd_loadN_bx rfl ag_50 rfl rfl (Nat.le_of_ble_eq_true rfl) rfl) ?_
  refine AL.op rfl (AOpB.op (op_call (rright15_c x h) rfl (by kernel_rfl) rfl (none) ?_))
  rintro r rfl
  refine AL.n ?_
  refine AL.r (rd_un rfl rfl (fun _ => rfl)) ?_
  refine AL.nil ?_
  change AW _ _ _ _ _
  refine AW.cd rfl (fun h7 => ?_) (fun h7 => ?_)
  ·skip
   refine AW.seq ?_
   refine AW.region ?_
   refine AL.r (rd_build rfl pl_50 ze_50 rfl rfl) ?_
   refine AL.op rfl (op_store_ rfl rfl rfl rfl rfl sz_50 ?_)
   refine AL.b ?_
   refine AL.ra ?_
   refine AL.nil ?_
   change AW _ _ _ _ _
   refine AW.ret ?_
   change ResA _ _ _ _ _
   refine res2 rfl (ResV.cells rfl rfl ag_50 (Nat.le_of_ble_eq_true rfl) rfl) (by first | exact setA_sc rfl | rfl) (ResV.tmp rfl) rfl ?_
   rw [invP, if_neg (by simp_all)]; rfl
  ·skip
   refine AW.skip ?_
   change AW _ _ _ _ _
   refine AW.seq ?_
   refine AW.freebox 1 rfl rfl (Nat.zero_lt_succ _) rfl ?_
   refine AW.norm (by simp only [anys, upds, offs, List.set_cons_zero, List.set_cons_succ]; rfl) (by (try simp only [anys, upds, offs, List.set_cons_zero, List.set_cons_succ]); (try rfl)) ?_
   refine AW.drawA (by kernel_rfl) ?_
   refine ADA.r 0 rfl (ARdP.a (rdP_faddr_ep rfl fo_50_0 rfl)) rfl ?_
   refine ADA.r 1 rfl (rdA_load_ep rfl ag_3 rfl rfl) rfl ?_
   refine ADA.r 3 rfl (ARdP.a (rdP_faddr_ep rfl fo_50_1 rfl)) rfl ?_
   refine ADA.r 4 rfl (rdA_loadN_ep rfl ag_44 rfl (Nat.le_of_ble_eq_true rfl) rfl) rfl ?_
   refine ADA.r 5 rfl (ARdP.a (rdP_faddr_ep rfl fo_50_2 rfl)) rfl ?_
   refine ADA.r 6 rfl (rdA_load_ep rfl ag_9 rfl rfl) rfl ?_
   refine ADA.r 7 rfl (ARdP.a (rdP_faddr_ep rfl fo_50_3 rfl)) rfl ?_
   refine ADA.r 8 rfl (rdA_load_ep rfl ag_9 rfl rfl) rfl ?_
   refine ADA.r 9 rfl (ARdP.a (rdP_faddr_ep rfl fo_50_4 rfl)) rfl ?_
   refine ADA.r 10 rfl (rdA_load_ep rfl ag_2 rfl rfl) rfl ?_
   refine ADA.r 11 rfl (ARdP.a (rdP_faddr_ep rfl fo_50_5 rfl)) rfl ?_
   refine ADA.r 12 rfl (rdA_loadN_ep rfl ag_47 rfl (Nat.le_of_ble_eq_true rfl) rfl) rfl ?_
   refine ADA.r 13 rfl (ARdP.a (rdP_faddr_ep rfl fo_50_7 rfl)) rfl ?_
   refine ADA.r 14 rfl (rdA_load_ep rfl ag_48 rfl rfl) rfl ?_
   refine ADA.r 15 rfl (ARdP.a (rdP_faddr_ep rfl fo_50_6 rfl)) rfl ?_
   refine ADA.r 16 rfl (rdA_load_ep rfl ag_48 rfl rfl) rfl ?_
   refine ADA.b ?_
   refine ADB.all (is := [2, 18]) (by kernel_rfl) (by simp) ?_
   intro i hi
   simp only [List.mem_cons, List.not_mem_nil, or_false] at hi
   rcases hi with rfl | rfl
   ·skip
    refine ⟨_, rfl, rfl, AOpB.op (op_call (rother_c x.kind) rfl (by kernel_rfl) rfl (none) ?_)⟩
    rintro r rfl
    refine ADB.n ?_
    refine ADB.r 17 rfl (rdP_build rfl pl_50 ze_50 rfl rfl) rfl ?_
    refine ADB.mv 18 rfl (AOpB.op (op_alloc 2 rfl ze_50 rfl ?_))
    refine ADB.n ?_
    refine ADB.mv 19 rfl (op_store_ rfl rfl rfl rfl rfl sz_50 ?_)
    refine ADB.n ?_
    refine ADB.done (by kernel_rfl) ?_
    change AW _ _ _ _ _
    refine AW.seq ?_
    refine AW.seq ?_
    refine AW.region ?_
    refine AL.r (rd_faddr_ep rfl fo_50_0 rfl) ?_
    refine AL.r (rd_load_ep rfl ag_3 rfl rfl) ?_
    refine AL.r (rd_bin rfl rfl rfl (fun _ => rfl)) ?_
    refine AL.nil ?_
    change AW _ _ _ _ _
    refine AW.cd rfl (fun h29 => ?_) (fun h29 => ?_)
    ·skip
     refine AW.seq ?_
     refine AW.region ?_
     refine AL.r (rd_faddr_ep rfl fo_50_2 rfl) ?_
     refine AL.r (rd_load_ep rfl ag_9 rfl rfl) ?_
     refine AL.r (rd_faddr_bx rfl fo_50_1 rfl rfl ⟨_, _, rfl⟩) ?_
     refine AL.r (rd_faddr_bx rfl fo_44_2 rfl rfl ⟨_, _, rfl⟩) ?_
     refine AL.op rfl (op_store_ rfl rfl rfl rfl rfl sz_9 ?_)
     refine AL.b ?_
     refine AL.nil ?_
     change AW _ _ _ _ _
     refine AW.region ?_
     refine AL.r (rd_faddr_ep rfl fo_50_1 rfl) ?_
     refine AL.r (rd_faddr_ep rfl fo_44_2 rfl) ?_
     refine AL.r (rd_load_ep rfl ag_9 rfl rfl) ?_
     refine AL.r (rd_faddr_bx rfl fo_50_2 rfl rfl ⟨_, _, rfl⟩) ?_
     refine AL.op rfl (op_store_ rfl rfl rfl rfl rfl sz_9 ?_)
     refine AL.b ?_
     refine AL.nil ?_
     change AW _ _ _ _ _
     refine AW.seq ?_
     refine AW.seq ?_
     refine AW.region ?_
     refine AL.r (rd_faddr_ep rfl fo_50_0 rfl) ?_
     refine AL.r (rd_load_ep rfl ag_3 rfl rfl) ?_
     refine AL.r (rd_bin rfl rfl rfl (fun _ => rfl)) ?_
     refine AL.nil ?_
     change AW _ _ _ _ _
     refine AW.cd rfl (fun h40 => ?_) (fun h40 => ?_)
     ·skip
      omega
     ·skip
      refine AW.skip ?_
      change AW _ _ _ _ _
      refine AW.seq ?_
      refine AW.seq ?_
      refine AW.region ?_
      refine AL.r (rd_faddr_ep rfl fo_50_0 rfl) ?_
      refine AL.r (rd_load_ep rfl ag_3 rfl rfl) ?_
      refine AL.r (rd_bin rfl rfl rfl (fun _ => rfl)) ?_
      refine AL.nil ?_
      change AW _ _ _ _ _
      refine AW.cd rfl (fun h49 => ?_) (fun h49 => ?_)
      ·skip
       omega
      ·skip
       refine AW.skip ?_
       change AW _ _ _ _ _
       refine AW.seq ?_
       refine AW.seq ?_
       refine AW.region ?_
       refine AL.r (rd_faddr_ep rfl fo_50_0 rfl) ?_
       refine AL.r (rd_load_ep rfl ag_3 rfl rfl) ?_
       refine AL.r (rd_bin rfl rfl rfl (fun _ => rfl)) ?_
       refine AL.nil ?_
       change AW _ _ _ _ _
       refine AW.cd rfl (fun h57 => ?_) (fun h57 => ?_)
       ·skip
        omega
       ·skip
        refine AW.skip ?_
        change AW _ _ _ _ _
        refine AW.seq ?_
        refine AW.region ?_
        refine AL.r (rd_loadN_bx rfl ag_50 rfl rfl (Nat.le_of_ble_eq_true rfl) rfl) ?_
        refine AL.op rfl (op_store_ rfl rfl rfl rfl rfl sz_50 ?_)
        refine AL.b ?_
        refine AL.ra ?_
        refine AL.nil ?_
        change AW _ _ _ _ _
        refine AW.ret ?_
        change ResA _ _ _ _ _
        refine res2 rfl (ResV.cells rfl rfl ag_50 (Nat.le_of_ble_eq_true rfl) rfl) (by first | exact setA_sc rfl | rfl) (ResV.tmp rfl) rfl ?_
        (have hr : rightL x = true := (by assumption)); rw [invP, if_pos hr]; first | (rw [inv_1 hr (by assumption)]; rfl) | (rw [inv_4 hr (by assumption)]; rfl) | (rw [inv_5 hr (by assumption)]; rfl) | (rw [inv_8 (by assumption)]; rfl) | (rw [inv_0 hr (by assumption) (by assumption) (by assumption) (by assumption)]; rfl)
    ·skip
     refine AW.skip ?_
     change AW _ _ _ _ _
     refine AW.seq ?_
     refine AW.seq ?_
     refine AW.region ?_
     refine AL.r (rd_faddr_ep rfl fo_50_0 rfl) ?_
     refine AL.r (rd_load_ep rfl ag_3 rfl rfl) ?_
     refine AL.r (rd_bin rfl rfl rfl (fun _ => rfl)) ?_
     refine AL.nil ?_
     change AW _ _ _ _ _
     refine AW.cd rfl (fun h40 => ?_) (fun h40 => ?_)
     ·skip
      refine AW.seq ?_
      refine AW.region ?_
      refine AL.r (rd_faddr_bx rfl fo_50_1 rfl rfl ⟨_, _, rfl⟩) ?_
      refine AL.r (rd_faddr_bx rfl fo_44_1 rfl rfl ⟨_, _, rfl⟩) ?_
      refine AL.op rfl (op_store_ rfl rfl rfl rfl rfl sz_9 ?_)
      refine AL.b ?_
      refine AL.nil ?_
      change AW _ _ _ _ _
      refine AW.region ?_
      refine AL.r (rd_faddr_ep rfl fo_50_1 rfl) ?_
      refine AL.r (rd_faddr_ep rfl fo_44_1 rfl) ?_
      refine AL.r (rd_load_ep rfl ag_9 rfl rfl) ?_
      refine AL.r (rd_faddr_bx rfl fo_50_2 rfl rfl ⟨_, _, rfl⟩) ?_
      refine AL.op rfl (op_store_ rfl rfl rfl rfl rfl sz_9 ?_)
      refine AL.b ?_
      refine AL.nil ?_
      change AW _ _ _ _ _
      refine AW.seq ?_
      refine AW.seq ?_
      refine AW.region ?_
      refine AL.r (rd_faddr_ep rfl fo_50_0 rfl) ?_
      refine AL.r (rd_load_ep rfl ag_3 rfl rfl) ?_
      refine AL.r (rd_bin rfl rfl rfl (fun _ => rfl)) ?_
      refine AL.nil ?_
      change AW _ _ _ _ _
      refine AW.cd rfl (fun h49 => ?_) (fun h49 => ?_)
      ·skip
       omega
      ·skip
       refine AW.skip ?_
       change AW _ _ _ _ _
       refine AW.seq ?_
       refine AW.seq ?_
       refine AW.region ?_
       refine AL.r (rd_faddr_ep rfl fo_50_0 rfl) ?_
       refine AL.r (rd_load_ep rfl ag_3 rfl rfl) ?_
       refine AL.r (rd_bin rfl rfl rfl (fun _ => rfl)) ?_
       refine AL.nil ?_
       change AW _ _ _ _ _
       refine AW.cd rfl (fun h57 => ?_) (fun h57 => ?_)
       ·skip
        omega
       ·skip
        refine AW.skip ?_
        change AW _ _ _ _ _
        refine AW.seq ?_
        refine AW.region ?_
        refine AL.r (rd_loadN_bx rfl ag_50 rfl rfl (Nat.le_of_ble_eq_true rfl) rfl) ?_
        refine AL.op rfl (op_store_ rfl rfl rfl rfl rfl sz_50 ?_)
        refine AL.b ?_
        refine AL.ra ?_
        refine AL.nil ?_
        change AW _ _ _ _ _
        refine AW.ret ?_
        change ResA _ _ _ _ _
        refine res2 rfl (ResV.cells rfl rfl ag_50 (Nat.le_of_ble_eq_true rfl) rfl) (by first | exact setA_sc rfl | rfl) (ResV.tmp rfl) rfl ?_
        (have hr : rightL x = true := (by assumption)); rw [invP, if_pos hr]; first | (rw [inv_1 hr (by assumption)]; rfl) | (rw [inv_4 hr (by assumption)]; rfl) | (rw [inv_5 hr (by assumption)]; rfl) | (rw [inv_8 (by assumption)]; rfl) | (rw [inv_0 hr (by assumption) (by assumption) (by assumption) (by assumption)]; rfl)
     ·skip
      refine AW.skip ?_
      change AW _ _ _ _ _
      refine AW.seq ?_
      refine AW.seq ?_
      refine AW.region ?_
      refine AL.r (rd_faddr_ep rfl fo_50_0 rfl) ?_
      refine AL.r (rd_load_ep rfl ag_3 rfl rfl) ?_
      refine AL.r (rd_bin rfl rfl rfl (fun _ => rfl)) ?_
      refine AL.nil ?_
      change AW _ _ _ _ _
      refine AW.cd rfl (fun h49 => ?_) (fun h49 => ?_)
      ·skip
       refine AW.seq ?_
       refine AW.region ?_
       refine AL.r (rd_faddr_ep rfl fo_50_2 rfl) ?_
       refine AL.r (rd_load_ep rfl ag_9 rfl rfl) ?_
       refine AL.r (rd_faddr_bx rfl fo_50_1 rfl rfl ⟨_, _, rfl⟩) ?_
       refine AL.r (rd_faddr_bx rfl fo_44_1 rfl rfl ⟨_, _, rfl⟩) ?_
       refine AL.op rfl (op_store_ rfl rfl rfl rfl rfl sz_9 ?_)
       refine AL.b ?_
       refine AL.nil ?_
       change AW _ _ _ _ _
       refine AW.region ?_
       refine AL.r (rd_faddr_bx rfl fo_50_2 rfl rfl ⟨_, _, rfl⟩) ?_
       refine AL.op rfl (op_store_ rfl rfl rfl rfl rfl sz_9 ?_)
       refine AL.b ?_
       refine AL.nil ?_
       change AW _ _ _ _ _
       refine AW.seq ?_
       refine AW.seq ?_
       refine AW.region ?_
       refine AL.r (rd_faddr_ep rfl fo_50_0 rfl) ?_
       refine AL.r (rd_load_ep rfl ag_3 rfl rfl) ?_
       refine AL.r (rd_bin rfl rfl rfl (fun _ => rfl)) ?_
       refine AL.nil ?_
       change AW _ _ _ _ _
       refine AW.cd rfl (fun h57 => ?_) (fun h57 => ?_)
       ·skip
        omega
       ·skip
        refine AW.skip ?_
        change AW _ _ _ _ _
        refine AW.seq ?_
        refine AW.region ?_
        refine AL.r (rd_loadN_bx rfl ag_50 rfl rfl (Nat.le_of_ble_eq_true rfl) rfl) ?_
        refine AL.op rfl (op_store_ rfl rfl rfl rfl rfl sz_50 ?_)
        refine AL.b ?_
        refine AL.ra ?_
        refine AL.nil ?_
        change AW _ _ _ _ _
        refine AW.ret ?_
        change ResA _ _ _ _ _
        refine res2 rfl (ResV.cells rfl rfl ag_50 (Nat.le_of_ble_eq_true rfl) rfl) (by first | exact setA_sc rfl | rfl) (ResV.tmp rfl) rfl ?_
        (have hr : rightL x = true := (by assumption)); rw [invP, if_pos hr]; first | (rw [inv_1 hr (by assumption)]; rfl) | (rw [inv_4 hr (by assumption)]; rfl) | (rw [inv_5 hr (by assumption)]; rfl) | (rw [inv_8 (by assumption)]; rfl) | (rw [inv_0 hr (by assumption) (by assumption) (by assumption) (by assumption)]; rfl)
      ·skip
       refine AW.skip ?_
       change AW _ _ _ _ _
       refine AW.seq ?_
       refine AW.seq ?_
       refine AW.region ?_
       refine AL.r (rd_faddr_ep rfl fo_50_0 rfl) ?_
       refine AL.r (rd_load_ep rfl ag_3 rfl rfl) ?_
       refine AL.r (rd_bin rfl rfl rfl (fun _ => rfl)) ?_
       refine AL.nil ?_
       change AW _ _ _ _ _
       refine AW.cd rfl (fun h57 => ?_) (fun h57 => ?_)
       ·skip
        refine AW.seq ?_
        refine AW.region ?_
        refine AL.r (rd_faddr_ep rfl fo_50_3 rfl) ?_
        refine AL.r (rd_load_ep rfl ag_9 rfl rfl) ?_
        refine AL.r (rd_faddr_bx rfl fo_50_2 rfl rfl ⟨_, _, rfl⟩) ?_
        refine AL.op rfl (op_store_ rfl rfl rfl rfl rfl sz_9 ?_)
        refine AL.b ?_
        refine AL.nil ?_
        change AW _ _ _ _ _
        refine AW.region ?_
        refine AL.r (rd_faddr_ep rfl fo_50_2 rfl) ?_
        refine AL.r (rd_load_ep rfl ag_9 rfl rfl) ?_
        refine AL.r (rd_faddr_bx rfl fo_50_3 rfl rfl ⟨_, _, rfl⟩) ?_
        refine AL.op rfl (op_store_ rfl rfl rfl rfl rfl sz_9 ?_)
        refine AL.b ?_
        refine AL.nil ?_
        change AW _ _ _ _ _
        refine AW.seq ?_
        refine AW.region ?_
        refine AL.r (rd_loadN_bx rfl ag_50 rfl rfl (Nat.le_of_ble_eq_true rfl) rfl) ?_
        refine AL.op rfl (op_store_ rfl rfl rfl rfl rfl sz_50 ?_)
        refine AL.b ?_
        refine AL.ra ?_
        refine AL.nil ?_
        change AW _ _ _ _ _
        refine AW.ret ?_
        change ResA _ _ _ _ _
        refine res2 rfl (ResV.cells rfl rfl ag_50 (Nat.le_of_ble_eq_true rfl) rfl) (by first | exact setA_sc rfl | rfl) (ResV.tmp rfl) rfl ?_
        (have hr : rightL x = true := (by assumption)); rw [invP, if_pos hr]; first | (rw [inv_1 hr (by assumption)]; rfl) | (rw [inv_4 hr (by assumption)]; rfl) | (rw [inv_5 hr (by assumption)]; rfl) | (rw [inv_8 (by assumption)]; rfl) | (rw [inv_0 hr (by assumption) (by assumption) (by assumption) (by assumption)]; rfl)
       ·skip
        refine AW.skip ?_
        change AW _ _ _ _ _
        refine AW.seq ?_
        refine AW.region ?_
        refine AL.r (rd_loadN_bx rfl ag_50 rfl rfl (Nat.le_of_ble_eq_true rfl) rfl) ?_
        refine AL.op rfl (op_store_ rfl rfl rfl rfl rfl sz_50 ?_)
        refine AL.b ?_
        refine AL.ra ?_
        refine AL.nil ?_
        change AW _ _ _ _ _
        refine AW.ret ?_
        change ResA _ _ _ _ _
        refine res2 rfl (ResV.cells rfl rfl ag_50 (Nat.le_of_ble_eq_true rfl) rfl) (by first | exact setA_sc rfl | rfl) (ResV.tmp rfl) rfl ?_
        (have hr : rightL x = true := (by assumption)); rw [invP, if_pos hr]; first | (rw [inv_1 hr (by assumption)]; rfl) | (rw [inv_4 hr (by assumption)]; rfl) | (rw [inv_5 hr (by assumption)]; rfl) | (rw [inv_8 (by assumption)]; rfl) | (rw [inv_0 hr (by assumption) (by assumption) (by assumption) (by assumption)]; rfl)
   ·skip
    refine ⟨_, rfl, rfl, AOpB.op (op_alloc 2 rfl ze_50 rfl ?_)⟩
    refine ADB.n ?_
    refine ADB.mv 2 rfl (AOpB.op (op_call (rother_c x.kind) rfl (by kernel_rfl) rfl (none) ?_))
    rintro r rfl
    refine ADB.n ?_
    refine ADB.r 17 rfl (rdP_build rfl pl_50 ze_50 rfl rfl) rfl ?_
    refine ADB.mv 19 rfl (op_store_ rfl rfl rfl rfl rfl sz_50 ?_)
    refine ADB.n ?_
    refine ADB.done (by kernel_rfl) ?_
    change AW _ _ _ _ _
    refine AW.seq ?_
    refine AW.seq ?_
    refine AW.region ?_
    refine AL.r (rd_faddr_ep rfl fo_50_0 rfl) ?_
    refine AL.r (rd_load_ep rfl ag_3 rfl rfl) ?_
    refine AL.r (rd_bin rfl rfl rfl (fun _ => rfl)) ?_
    refine AL.nil ?_
    change AW _ _ _ _ _
    refine AW.cd rfl (fun h29 => ?_) (fun h29 => ?_)
    ·skip
     refine AW.seq ?_
     refine AW.region ?_
     refine AL.r (rd_faddr_ep rfl fo_50_2 rfl) ?_
     refine AL.r (rd_load_ep rfl ag_9 rfl rfl) ?_
     refine AL.r (rd_faddr_bx rfl fo_50_1 rfl rfl ⟨_, _, rfl⟩) ?_
     refine AL.r (rd_faddr_bx rfl fo_44_2 rfl rfl ⟨_, _, rfl⟩) ?_
     refine AL.op rfl (op_store_ rfl rfl rfl rfl rfl sz_9 ?_)
     refine AL.b ?_
     refine AL.nil ?_
     change AW _ _ _ _ _
     refine AW.region ?_
     refine AL.r (rd_faddr_ep rfl fo_50_1 rfl) ?_
     refine AL.r (rd_faddr_ep rfl fo_44_2 rfl) ?_
     refine AL.r (rd_load_ep rfl ag_9 rfl rfl) ?_
     refine AL.r (rd_faddr_bx rfl fo_50_2 rfl rfl ⟨_, _, rfl⟩) ?_
     refine AL.op rfl (op_store_ rfl rfl rfl rfl rfl sz_9 ?_)
     refine AL.b ?_
     refine AL.nil ?_
     change AW _ _ _ _ _
     refine AW.seq ?_
     refine AW.seq ?_
     refine AW.region ?_
     refine AL.r (rd_faddr_ep rfl fo_50_0 rfl) ?_
     refine AL.r (rd_load_ep rfl ag_3 rfl rfl) ?_
     refine AL.r (rd_bin rfl rfl rfl (fun _ => rfl)) ?_
     refine AL.nil ?_
     change AW _ _ _ _ _
     refine AW.cd rfl (fun h40 => ?_) (fun h40 => ?_)
     ·skip
      omega
     ·skip
      refine AW.skip ?_
      change AW _ _ _ _ _
      refine AW.seq ?_
      refine AW.seq ?_
      refine AW.region ?_
      refine AL.r (rd_faddr_ep rfl fo_50_0 rfl) ?_
      refine AL.r (rd_load_ep rfl ag_3 rfl rfl) ?_
      refine AL.r (rd_bin rfl rfl rfl (fun _ => rfl)) ?_
      refine AL.nil ?_
      change AW _ _ _ _ _
      refine AW.cd rfl (fun h49 => ?_) (fun h49 => ?_)
      ·skip
       omega
      ·skip
       refine AW.skip ?_
       change AW _ _ _ _ _
       refine AW.seq ?_
       refine AW.seq ?_
       refine AW.region ?_
       refine AL.r (rd_faddr_ep rfl fo_50_0 rfl) ?_
       refine AL.r (rd_load_ep rfl ag_3 rfl rfl) ?_
       refine AL.r (rd_bin rfl rfl rfl (fun _ => rfl)) ?_
       refine AL.nil ?_
       change AW _ _ _ _ _
       refine AW.cd rfl (fun h57 => ?_) (fun h57 => ?_)
       ·skip
        omega
       ·skip
        refine AW.skip ?_
        change AW _ _ _ _ _
        refine AW.seq ?_
        refine AW.region ?_
        refine AL.r (rd_loadN_bx rfl ag_50 rfl rfl (Nat.le_of_ble_eq_true rfl) rfl) ?_
        refine AL.op rfl (op_store_ rfl rfl rfl rfl rfl sz_50 ?_)
        refine AL.b ?_
        refine AL.ra ?_
        refine AL.nil ?_
        change AW _ _ _ _ _
        refine AW.ret ?_
        change ResA _ _ _ _ _
        refine res2 rfl (ResV.cells rfl rfl ag_50 (Nat.le_of_ble_eq_true rfl) rfl) (by first | exact setA_sc rfl | rfl) (ResV.tmp rfl) rfl ?_
        (have hr : rightL x = true := (by assumption)); rw [invP, if_pos hr]; first | (rw [inv_1 hr (by assumption)]; rfl) | (rw [inv_4 hr (by assumption)]; rfl) | (rw [inv_5 hr (by assumption)]; rfl) | (rw [inv_8 (by assumption)]; rfl) | (rw [inv_0 hr (by assumption) (by assumption) (by assumption) (by assumption)]; rfl)
    ·skip
     refine AW.skip ?_
     change AW _ _ _ _ _
     refine AW.seq ?_
     refine AW.seq ?_
     refine AW.region ?_
     refine AL.r (rd_faddr_ep rfl fo_50_0 rfl) ?_
     refine AL.r (rd_load_ep rfl ag_3 rfl rfl) ?_
     refine AL.r (rd_bin rfl rfl rfl (fun _ => rfl)) ?_
     refine AL.nil ?_
     change AW _ _ _ _ _
     refine AW.cd rfl (fun h40 => ?_) (fun h40 => ?_)
     ·skip
      refine AW.seq ?_
      refine AW.region ?_
      refine AL.r (rd_faddr_bx rfl fo_50_1 rfl rfl ⟨_, _, rfl⟩) ?_
      refine AL.r (rd_faddr_bx rfl fo_44_1 rfl rfl ⟨_, _, rfl⟩) ?_
      refine AL.op rfl (op_store_ rfl rfl rfl rfl rfl sz_9 ?_)
      refine AL.b ?_
      refine AL.nil ?_
      change AW _ _ _ _ _
      refine AW.region ?_
      refine AL.r (rd_faddr_ep rfl fo_50_1 rfl) ?_
      refine AL.r (rd_faddr_ep rfl fo_44_1 rfl) ?_
      refine AL.r (rd_load_ep rfl ag_9 rfl rfl) ?_
      refine AL.r (rd_faddr_bx rfl fo_50_2 rfl rfl ⟨_, _, rfl⟩) ?_
      refine AL.op rfl (op_store_ rfl rfl rfl rfl rfl sz_9 ?_)
      refine AL.b ?_
      refine AL.nil ?_
      change AW _ _ _ _ _
      refine AW.seq ?_
      refine AW.seq ?_
      refine AW.region ?_
      refine AL.r (rd_faddr_ep rfl fo_50_0 rfl) ?_
      refine AL.r (rd_load_ep rfl ag_3 rfl rfl) ?_
      refine AL.r (rd_bin rfl rfl rfl (fun _ => rfl)) ?_
      refine AL.nil ?_
      change AW _ _ _ _ _
      refine AW.cd rfl (fun h49 => ?_) (fun h49 => ?_)
      ·skip
       omega
      ·skip
       refine AW.skip ?_
       change AW _ _ _ _ _
       refine AW.seq ?_
       refine AW.seq ?_
       refine AW.region ?_
       refine AL.r (rd_faddr_ep rfl fo_50_0 rfl) ?_
       refine AL.r (rd_load_ep rfl ag_3 rfl rfl) ?_
       refine AL.r (rd_bin rfl rfl rfl (fun _ => rfl)) ?_
       refine AL.nil ?_
       change AW _ _ _ _ _
       refine AW.cd rfl (fun h57 => ?_) (fun h57 => ?_)
       ·skip
        omega
       ·skip
        refine AW.skip ?_
        change AW _ _ _ _ _
        refine AW.seq ?_
        refine AW.region ?_
        refine AL.r (rd_loadN_bx rfl ag_50 rfl rfl (Nat.le_of_ble_eq_true rfl) rfl) ?_
        refine AL.op rfl (op_store_ rfl rfl rfl rfl rfl sz_50 ?_)
        refine AL.b ?_
        refine AL.ra ?_
        refine AL.nil ?_
        change AW _ _ _ _ _
        refine AW.ret ?_
        change ResA _ _ _ _ _
        refine res2 rfl (ResV.cells rfl rfl ag_50 (Nat.le_of_ble_eq_true rfl) rfl) (by first | exact setA_sc rfl | rfl) (ResV.tmp rfl) rfl ?_
        (have hr : rightL x = true := (by assumption)); rw [invP, if_pos hr]; first | (rw [inv_1 hr (by assumption)]; rfl) | (rw [inv_4 hr (by assumption)]; rfl) | (rw [inv_5 hr (by assumption)]; rfl) | (rw [inv_8 (by assumption)]; rfl) | (rw [inv_0 hr (by assumption) (by assumption) (by assumption) (by assumption)]; rfl)
     ·skip
      refine AW.skip ?_
      change AW _ _ _ _ _
      refine AW.seq ?_
      refine AW.seq ?_
      refine AW.region ?_
      refine AL.r (rd_faddr_ep rfl fo_50_0 rfl) ?_
      refine AL.r (rd_load_ep rfl ag_3 rfl rfl) ?_
      refine AL.r (rd_bin rfl rfl rfl (fun _ => rfl)) ?_
      refine AL.nil ?_
      change AW _ _ _ _ _
      refine AW.cd rfl (fun h49 => ?_) (fun h49 => ?_)
      ·skip
       refine AW.seq ?_
       refine AW.region ?_
       refine AL.r (rd_faddr_ep rfl fo_50_2 rfl) ?_
       refine AL.r (rd_load_ep rfl ag_9 rfl rfl) ?_
       refine AL.r (rd_faddr_bx rfl fo_50_1 rfl rfl ⟨_, _, rfl⟩) ?_
       refine AL.r (rd_faddr_bx rfl fo_44_1 rfl rfl ⟨_, _, rfl⟩) ?_
       refine AL.op rfl (op_store_ rfl rfl rfl rfl rfl sz_9 ?_)
       refine AL.b ?_
       refine AL.nil ?_
       change AW _ _ _ _ _
       refine AW.region ?_
       refine AL.r (rd_faddr_bx rfl fo_50_2 rfl rfl ⟨_, _, rfl⟩) ?_
       refine AL.op rfl (op_store_ rfl rfl rfl rfl rfl sz_9 ?_)
       refine AL.b ?_
       refine AL.nil ?_
       change AW _ _ _ _ _
       refine AW.seq ?_
       refine AW.seq ?_
       refine AW.region ?_
       refine AL.r (rd_faddr_ep rfl fo_50_0 rfl) ?_
       refine AL.r (rd_load_ep rfl ag_3 rfl rfl) ?_
       refine AL.r (rd_bin rfl rfl rfl (fun _ => rfl)) ?_
       refine AL.nil ?_
       change AW _ _ _ _ _
       refine AW.cd rfl (fun h57 => ?_) (fun h57 => ?_)
       ·skip
        omega
       ·skip
        refine AW.skip ?_
        change AW _ _ _ _ _
        refine AW.seq ?_
        refine AW.region ?_
        refine AL.r (rd_loadN_bx rfl ag_50 rfl rfl (Nat.le_of_ble_eq_true rfl) rfl) ?_
        refine AL.op rfl (op_store_ rfl rfl rfl rfl rfl sz_50 ?_)
        refine AL.b ?_
        refine AL.ra ?_
        refine AL.nil ?_
        change AW _ _ _ _ _
        refine AW.ret ?_
        change ResA _ _ _ _ _
        refine res2 rfl (ResV.cells rfl rfl ag_50 (Nat.le_of_ble_eq_true rfl) rfl) (by first | exact setA_sc rfl | rfl) (ResV.tmp rfl) rfl ?_
        (have hr : rightL x = true := (by assumption)); rw [invP, if_pos hr]; first | (rw [inv_1 hr (by assumption)]; rfl) | (rw [inv_4 hr (by assumption)]; rfl) | (rw [inv_5 hr (by assumption)]; rfl) | (rw [inv_8 (by assumption)]; rfl) | (rw [inv_0 hr (by assumption) (by assumption) (by assumption) (by assumption)]; rfl)
      ·skip
       refine AW.skip ?_
       change AW _ _ _ _ _
       refine AW.seq ?_
       refine AW.seq ?_
       refine AW.region ?_
       refine AL.r (rd_faddr_ep rfl fo_50_0 rfl) ?_
       refine AL.r (rd_load_ep rfl ag_3 rfl rfl) ?_
       refine AL.r (rd_bin rfl rfl rfl (fun _ => rfl)) ?_
       refine AL.nil ?_
       change AW _ _ _ _ _
       refine AW.cd rfl (fun h57 => ?_) (fun h57 => ?_)
       ·skip
        refine AW.seq ?_
        refine AW.region ?_
        refine AL.r (rd_faddr_ep rfl fo_50_3 rfl) ?_
        refine AL.r (rd_load_ep rfl ag_9 rfl rfl) ?_
        refine AL.r (rd_faddr_bx rfl fo_50_2 rfl rfl ⟨_, _, rfl⟩) ?_
        refine AL.op rfl (op_store_ rfl rfl rfl rfl rfl sz_9 ?_)
        refine AL.b ?_
        refine AL.nil ?_
        change AW _ _ _ _ _
        refine AW.region ?_
        refine AL.r (rd_faddr_ep rfl fo_50_2 rfl) ?_
        refine AL.r (rd_load_ep rfl ag_9 rfl rfl) ?_
        refine AL.r (rd_faddr_bx rfl fo_50_3 rfl rfl ⟨_, _, rfl⟩) ?_
        refine AL.op rfl (op_store_ rfl rfl rfl rfl rfl sz_9 ?_)
        refine AL.b ?_
        refine AL.nil ?_
        change AW _ _ _ _ _
        refine AW.seq ?_
        refine AW.region ?_
        refine AL.r (rd_loadN_bx rfl ag_50 rfl rfl (Nat.le_of_ble_eq_true rfl) rfl) ?_
        refine AL.op rfl (op_store_ rfl rfl rfl rfl rfl sz_50 ?_)
        refine AL.b ?_
        refine AL.ra ?_
        refine AL.nil ?_
        change AW _ _ _ _ _
        refine AW.ret ?_
        change ResA _ _ _ _ _
        refine res2 rfl (ResV.cells rfl rfl ag_50 (Nat.le_of_ble_eq_true rfl) rfl) (by first | exact setA_sc rfl | rfl) (ResV.tmp rfl) rfl ?_
        (have hr : rightL x = true := (by assumption)); rw [invP, if_pos hr]; first | (rw [inv_1 hr (by assumption)]; rfl) | (rw [inv_4 hr (by assumption)]; rfl) | (rw [inv_5 hr (by assumption)]; rfl) | (rw [inv_8 (by assumption)]; rfl) | (rw [inv_0 hr (by assumption) (by assumption) (by assumption) (by assumption)]; rfl)
       ·skip
        refine AW.skip ?_
        change AW _ _ _ _ _
        refine AW.seq ?_
        refine AW.region ?_
        refine AL.r (rd_loadN_bx rfl ag_50 rfl rfl (Nat.le_of_ble_eq_true rfl) rfl) ?_
        refine AL.op rfl (op_store_ rfl rfl rfl rfl rfl sz_50 ?_)
        refine AL.b ?_
        refine AL.ra ?_
        refine AL.nil ?_
        change AW _ _ _ _ _
        refine AW.ret ?_
        change ResA _ _ _ _ _
        refine res2 rfl (ResV.cells rfl rfl ag_50 (Nat.le_of_ble_eq_true rfl) rfl) (by first | exact setA_sc rfl | rfl) (ResV.tmp rfl) rfl ?_
        (have hr : rightL x = true := (by assumption)); rw [invP, if_pos hr]; first | (rw [inv_1 hr (by assumption)]; rfl) | (rw [inv_4 hr (by assumption)]; rfl) | (rw [inv_5 hr (by assumption)]; rfl) | (rw [inv_8 (by assumption)]; rfl) | (rw [inv_0 hr (by assumption) (by assumption) (by assumption) (by assumption)]; rfl)
def lensA : LensD := ⟨2, ⟨0, [], []⟩, [], [], 0, ⟨⟨0, [], [99, 111, 117, 112, 111, 110]⟩, 2, [], [], 0⟩, [], []⟩
theorem lensA_inv : invP lensA = ({ lensA with kind := 3 }, 0) := by decide +kernel
theorem lensA_small : lensA.Small := ⟨by decide, by decide, by decide⟩
theorem awake16 : AC Try.prog 20 [] (fun x => x = .s (AB true)) := by
  have hb := binv_c lensA lensA_small
  rw [lensA_inv] at hb
  have hs := rlsame_c { lensA with kind := 3 } { lensA with kind := 3 } ⟨by decide, by decide, by decide⟩
  rw [decide_eq_true rfl] at hs
  refine AC.of' 21 3 Try.func20 rfl ?_
  change AW _ _ _ _ [TK.mk 0 .off, TK.mk 0 .off, TK.mk 0 .off]
  refine AW.seq ?_
  refine AW.region ?_
  refine AL.ra ?_
  refine AL.nil ?_
  change AW _ _ _ _ _
  refine AW.seq ?_
  refine AW.region ?_
  refine AL.op rfl (AOpB.op (op_call (rroot_c) rfl (by kernel_rfl) rfl (some 0) ?_))
  rintro r rfl
  refine ⟨_, rfl, ?_⟩
  refine AL.n ?_
  refine AL.settle 4 rfl rfl (by first | rfl | exact cont_owM _ _ _ _) ?_
  refine AL.no ?_
  refine AL.r (rd_iaddr_sl rfl el_42 rfl rfl (n := 0) rfl (get_mapA (by decide)) rfl) ?_
  refine AL.r (rd_loadN_ep rfl ag_47 rfl (Nat.le_of_ble_eq_true rfl) rfl) ?_
  refine AL.op rfl (AOpB.op (op_alloc 1 rfl ze_47 rfl ?_))
  refine AL.n ?_
  refine AL.op rfl (op_store_ rfl rfl rfl rfl rfl sz_47 ?_)
  refine AL.b ?_
  refine AL.nil ?_
  change AW _ _ _ _ _
  refine AW.seq ?_
  refine AW.region ?_
  refine AL.r (rd_loadN_bx rfl ag_47 rfl rfl (Nat.le_of_ble_eq_true rfl) rfl) ?_
  refine AL.r (rd_build rfl pl_50 ze_50 rfl rfl) ?_
  refine AL.op rfl (AOpB.op (op_call (hb) rfl (by kernel_rfl) rfl (none) ?_))
  rintro r rfl
  refine AL.n ?_
  refine AL.rm ?_
  refine AL.r (rd_extract rfl rfl rfl) ?_
  refine AL.r (rd_extract rfl rfl rfl) ?_
  refine AL.op rfl (AOpB.op (op_alloc 2 rfl ze_50 rfl ?_))
  refine AL.n ?_
  refine AL.op rfl (op_store_ rfl rfl rfl rfl rfl sz_50 ?_)
  refine AL.b ?_
  refine AL.ra ?_
  refine AL.nil ?_
  change AW _ _ _ _ _
  refine AW.seq ?_
  refine AW.region ?_
  refine AL.rm ?_
  refine AL.r (rd_bin rfl rfl rfl (fun _ => rfl)) ?_
  refine AL.rm ?_
  refine AL.fk (d := 15) rfl (fun h15 => ?_) (fun h15 => ?_)
  ·skip
   refine AL.n ?_
   refine AL.ro (rd_loadN_bx rfl ag_50 rfl rfl (Nat.le_of_ble_eq_true rfl) rfl) ?_
   refine AL.ro (rd_loadN_bx rfl ag_47 rfl rfl (Nat.le_of_ble_eq_true rfl) rfl) ?_
   refine AL.ro (rd_build rfl pl_50 ze_50 rfl rfl) ?_
   refine AL.on rfl rfl rfl (AOpB.op (op_call (hs) rfl (by kernel_rfl) rfl (none) ?_))
   rintro r rfl
   refine AL.n ?_
   refine AL.r (rd_pick_t rfl rfl rfl) ?_
   refine AL.ra ?_
   refine AL.nil ?_
   change AW _ _ _ _ _
   refine AW.ret ?_
   change ResA _ _ _ _ _
   refine res1 rfl (ResV.tmp rfl) rfl ?_
   rfl
  ·skip
   exact (h15 trivial).elim
end Go.Proofs.Ytdgcbhihmnhnaaa
