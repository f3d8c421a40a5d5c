/- Where a lens leads, its parts walked over abstract states: what goes, what comes, what arrives. -/
import Derived.Test.YtdgcbhihmnhnaaaBkB
import Derived.Test.YtdgcbhihmnhnaaaSchG
import Derived.Test.YtdgcbhihmnhnaaaLenN
import Derived.Test.YtdgcbhihmnhnaaaCut
namespace Go.Proofs.Ytdgcbhihmnhnaaa
set_option linter.unusedSimpArgs false
set_option linter.unusedVariables false
set_option maxRecDepth 100000
set_option maxRecDepth 100000
open Go.RowKit

theorem beside_c (r : RefD) (s : Bytes) : AC Try.prog 110 [r.av, AS s] (fun x => x = .s (besR r s).av) := by
  change AC _ _ [.ag [AI r.scope, AS r.group, AS r.name], AS s] _
  refine AC.of' 9 2 Try.func110 rfl ?_
  change AW _ _ _ _ [TK.mk 0 .off, TK.mk 0 .off]
  refine AW.seq ?_
  refine AW.region ?_
  refine AL.op rfl (AOpB.op (op_box 0 rfl rfl rfl rfl rfl ?_))
  refine AL.n ?_
  refine AL.op rfl (AOpB.op (op_alloc 1 rfl ze_44 rfl ?_))
  refine AL.n ?_
  refine AL.nil ?_
  change AW _ _ _ _ _
  refine AW.seq ?_
  refine AW.region ?_
  refine AL.r (rd_faddr_bx rfl fo_44_0 rfl rfl ⟨_, _, rfl⟩) ?_
  refine AL.r (rd_load_bx rfl ag_3 rfl rfl rfl) ?_
  refine AL.r (rd_faddr_bx rfl fo_44_1 rfl rfl ⟨_, _, rfl⟩) ?_
  refine AL.r (rd_load_bx rfl ag_9 rfl rfl rfl) ?_
  refine AL.rm ?_
  refine AL.r (rd_build rfl pl_44 ze_44 rfl rfl) ?_
  refine AL.op rfl (op_store_ rfl rfl rfl rfl rfl sz_44 ?_)
  refine AL.n ?_
  refine AL.nil ?_
  change AW _ _ _ _ _
  refine AW.ret ?_
  change ResA _ _ _ _ _
  refine res1 rfl (ResV.cells rfl rfl ag_44 (Nat.le_of_ble_eq_true rfl) rfl) rfl ?_
  rfl
set_option maxHeartbeats 1000000 in
theorem goes_c (x : LensD) : AC Try.prog 60 [x.av] (fun r => r = .s (.sl ((goesL x).map RefD.cs))) := by
  change AC _ _ [.ag [AI x.kind, AI x.at_.scope, AS x.at_.group, AS x.at_.name, AS x.name, AS x.other, AI x.factor, AI x.field.at_.scope, AS x.field.at_.group, AS x.field.at_.name, AI x.field.kind, AS x.field.dflt, .sl (csS x.field.cases), AI x.field.worth, .sl (x.forth.map PairD.cs), .sl (x.back.map PairD.cs)]] _
  refine AC.of' 31 4 Try.func60 rfl ?_
  change AW _ _ _ _ [TK.mk 0 .off, TK.mk 0 .off, TK.mk 0 .off, TK.mk 0 .off]
  refine AW.seq ?_
  refine AW.region ?_
  refine AL.op rfl (AOpB.op (op_box 0 rfl rfl rfl rfl rfl ?_))
  refine AL.n ?_
  refine AL.ra ?_
  refine AL.nil ?_
  change AW _ _ _ _ _
  refine AW.seq ?_
  refine AW.seq ?_
  refine AW.region ?_
  refine AL.r (rd_loadN_bx rfl ag_50 rfl rfl (Nat.le_of_ble_eq_true rfl) rfl) ?_
  refine AL.op rfl (AOpB.op (op_call (lright_c x) rfl (by kernel_rfl) rfl (none) ?_))
  rintro r rfl
  refine AL.n ?_
  refine AL.r (rd_un rfl rfl (fun _ => rfl)) ?_
  refine AL.nil ?_
  change AW _ _ _ _ _
  refine AW.cd rfl (fun h5 => ?_) (fun h5 => ?_)
  ·skip
   refine AW.seq ?_
   refine AW.region ?_
   refine AL.ra ?_
   refine AL.nil ?_
   change AW _ _ _ _ _
   refine AW.ret ?_
   change ResA _ _ _ _ _
   refine res1 rfl (ResV.tmp rfl) rfl ?_
   (rw [goesL, if_pos (by assumption)]; rfl)
  ·skip
   refine AW.skip ?_
   change AW _ _ _ _ _
   refine AW.seq ?_
   refine AW.seq ?_
   refine AW.freebox 1 rfl rfl (Nat.zero_lt_succ _) rfl ?_
   refine AW.norm (by simp only [anys, upds, offs, List.set_cons_zero, List.set_cons_succ]; rfl) (by (try simp only [anys, upds, offs, List.set_cons_zero, List.set_cons_succ]); (try rfl)) ?_
   refine AW.region ?_
   refine AL.r (rd_faddr_ep rfl fo_50_0 rfl) ?_
   refine AL.r (rd_load_ep rfl ag_3 rfl rfl) ?_
   refine AL.nil ?_
   change AW _ _ _ _ _
   refine AW.block ?_
   refine AW.seq ?_
   refine AW.region ?_
   refine AL.r (rd_bin rfl rfl rfl (fun _ => rfl)) ?_
   refine AL.ra ?_
   refine AL.nil ?_
   change AW _ _ _ _ _
   refine AW.cd rfl (fun h8 => ?_) (fun h8 => ?_)
   ·skip
    refine AW.seq ?_
    refine AW.region ?_
    refine AL.ra ?_
    refine AL.nil ?_
    change AW _ _ _ _ _
    refine AW.ret ?_
    change ResA _ _ _ _ _
    refine res1 rfl (ResV.tmp rfl) rfl ?_
    (have hr : rightL x = true := (by assumption)); rw [goesL, if_neg (by rw [hr]; decide)]; simp_all [besR, RefD.cs]
   ·skip
    refine AW.seq ?_
    refine AW.region ?_
    refine AL.r (rd_bin rfl rfl rfl (fun _ => rfl)) ?_
    refine AL.ra ?_
    refine AL.nil ?_
    change AW _ _ _ _ _
    refine AW.cd rfl (fun h10 => ?_) (fun h10 => ?_)
    ·skip
     refine AW.seq ?_
     refine AW.region ?_
     refine AL.r (rd_faddr_ep rfl fo_50_5 rfl) ?_
     refine AL.r (rd_faddr_ep rfl fo_47_0 rfl) ?_
     refine AL.r (rd_loadN_ep rfl ag_44 rfl (Nat.le_of_ble_eq_true rfl) rfl) ?_
     refine AL.op rfl (AOpB.op (bs_set rfl ap_112 ze_44 rfl rfl ?_))
     refine AL.n ?_
     refine AL.ra ?_
     refine AL.nil ?_
     change AW _ _ _ _ _
     refine AW.ret ?_
     change ResA _ _ _ _ _
     refine res1 rfl (ResV.tmp rfl) rfl ?_
     (have hr : rightL x = true := (by assumption)); rw [goesL, if_neg (by rw [hr]; decide)]; simp_all [besR, RefD.cs]
    ·skip
     refine AW.seq ?_
     refine AW.region ?_
     refine AL.r (rd_bin rfl rfl rfl (fun _ => rfl)) ?_
     refine AL.ra ?_
     refine AL.nil ?_
     change AW _ _ _ _ _
     refine AW.cd rfl (fun h16 => ?_) (fun h16 => ?_)
     ·skip
      refine AW.seq ?_
      refine AW.draw (by kernel_rfl) ?_
      refine AD.r 0 rfl (rd_faddr_ep rfl fo_50_1 rfl) rfl ?_
      refine AD.r 1 rfl (rd_loadN_ep rfl ag_44 rfl (Nat.le_of_ble_eq_true rfl) rfl) rfl ?_
      refine AD.r 2 rfl (rd_faddr_ep rfl fo_50_2 rfl) rfl ?_
      refine AD.r 3 rfl (rd_load_ep rfl ag_9 rfl rfl) rfl ?_
      refine AD.r 5 rfl (rd_faddr_ep rfl fo_50_1 rfl) rfl ?_
      refine AD.r 6 rfl (rd_loadN_ep rfl ag_44 rfl (Nat.le_of_ble_eq_true rfl) rfl) rfl ?_
      refine AD.r 7 rfl (rd_faddr_ep rfl fo_50_3 rfl) rfl ?_
      refine AD.r 8 rfl (rd_load_ep rfl ag_9 rfl rfl) rfl ?_
      refine AD.move 4 rfl (by kernel_rfl) rfl (op_call (beside_c x.at_ x.name) rfl (by kernel_rfl) rfl (none) ?_)
      rintro r rfl
      refine AD.n ?_
      refine AD.move 9 rfl (by kernel_rfl) rfl (op_call (beside_c x.at_ x.other) rfl (by kernel_rfl) rfl (none) ?_)
      rintro r rfl
      refine AD.n ?_
      refine AD.move 10 rfl (by kernel_rfl) rfl (bs_set rfl ap_112 ze_44 rfl rfl ?_)
      refine AD.n ?_
      refine AD.r 11 rfl (rd_assign rfl rfl) rfl ?_
      refine AD.done (by kernel_rfl) ?_
      change AW _ _ _ _ _
      refine AW.ret ?_
      change ResA _ _ _ _ _
      refine res1 rfl (ResV.tmp rfl) rfl ?_
      (have hr : rightL x = true := (by assumption)); rw [goesL, if_neg (by rw [hr]; decide)]; simp_all [besR, RefD.cs]
     ·skip
      refine AW.skip ?_
      change AW _ _ _ _ _
      refine AW.seq ?_
      refine AW.region ?_
      refine AL.r (rd_faddr_ep rfl fo_50_1 rfl) ?_
      refine AL.r (rd_loadN_ep rfl ag_44 rfl (Nat.le_of_ble_eq_true rfl) rfl) ?_
      refine AL.op rfl (AOpB.op (bs_set rfl ap_112 ze_44 rfl rfl ?_))
      refine AL.n ?_
      refine AL.ra ?_
      refine AL.nil ?_
      change AW _ _ _ _ _
      refine AW.ret ?_
      change ResA _ _ _ _ _
      refine res1 rfl (ResV.tmp rfl) rfl ?_
      (have hr : rightL x = true := (by assumption)); rw [goesL, if_neg (by rw [hr]; decide)]; simp_all [besR, RefD.cs]
set_option maxHeartbeats 1000000 in
theorem comes_c (x : LensD) : AC Try.prog 108 [x.av] (fun r => r = .s (.sl ((comesL x).map RefD.cs))) := by
  change AC _ _ [.ag [AI x.kind, AI x.at_.scope, AS x.at_.group, AS x.at_.name, AS x.name, AS x.other, AI x.factor, AI x.field.at_.scope, AS x.field.at_.group, AS x.field.at_.name, AI x.field.kind, AS x.field.dflt, .sl (csS x.field.cases), AI x.field.worth, .sl (x.forth.map PairD.cs), .sl (x.back.map PairD.cs)]] _
  refine AC.of' 61 7 Try.func108 rfl ?_
  change AW _ _ _ _ [TK.mk 0 .off, TK.mk 0 .off, TK.mk 0 .off, TK.mk 0 .off, TK.mk 0 .off, TK.mk 0 .off, TK.mk 0 .off]
  refine AW.seq ?_
  refine AW.region ?_
  refine AL.op rfl (AOpB.op (op_box 0 rfl rfl rfl rfl rfl ?_))
  refine AL.n ?_
  refine AL.ra ?_
  refine AL.nil ?_
  change AW _ _ _ _ _
  refine AW.seq ?_
  refine AW.seq ?_
  refine AW.region ?_
  refine AL.r (rd_loadN_bx rfl ag_50 rfl rfl (Nat.le_of_ble_eq_true rfl) rfl) ?_
  refine AL.op rfl (AOpB.op (op_call (lright_c x) rfl (by kernel_rfl) rfl (none) ?_))
  rintro r rfl
  refine AL.n ?_
  refine AL.r (rd_un rfl rfl (fun _ => rfl)) ?_
  refine AL.nil ?_
  change AW _ _ _ _ _
  refine AW.cd rfl (fun h5 => ?_) (fun h5 => ?_)
  ·skip
   refine AW.seq ?_
   refine AW.region ?_
   refine AL.ra ?_
   refine AL.nil ?_
   change AW _ _ _ _ _
   refine AW.ret ?_
   change ResA _ _ _ _ _
   refine res1 rfl (ResV.tmp rfl) rfl ?_
   (rw [comesL, if_pos (by assumption)]; rfl)
  ·skip
   refine AW.skip ?_
   change AW _ _ _ _ _
   refine AW.seq ?_
   refine AW.seq ?_
   refine AW.freebox 1 rfl rfl (Nat.zero_lt_succ _) rfl ?_
   refine AW.norm (by simp only [anys, upds, offs, List.set_cons_zero, List.set_cons_succ]; rfl) (by (try simp only [anys, upds, offs, List.set_cons_zero, List.set_cons_succ]); (try rfl)) ?_
   refine AW.region ?_
   refine AL.r (rd_faddr_ep rfl fo_50_0 rfl) ?_
   refine AL.r (rd_load_ep rfl ag_3 rfl rfl) ?_
   refine AL.nil ?_
   change AW _ _ _ _ _
   refine AW.block ?_
   refine AW.seq ?_
   refine AW.region ?_
   refine AL.r (rd_bin rfl rfl rfl (fun _ => rfl)) ?_
   refine AL.ra ?_
   refine AL.nil ?_
   change AW _ _ _ _ _
   refine AW.cd rfl (fun h8 => ?_) (fun h8 => ?_)
   ·skip
    refine AW.seq ?_
    refine AW.region ?_
    refine AL.r (rd_faddr_ep rfl fo_50_1 rfl) ?_
    refine AL.r (rd_loadN_ep rfl ag_44 rfl (Nat.le_of_ble_eq_true rfl) rfl) ?_
    refine AL.r (rd_faddr_ep rfl fo_50_2 rfl) ?_
    refine AL.r (rd_load_ep rfl ag_9 rfl rfl) ?_
    refine AL.op rfl (AOpB.op (op_call (beside_c x.at_ x.name) rfl (by kernel_rfl) rfl (none) ?_))
    rintro r rfl
    refine AL.n ?_
    refine AL.op rfl (AOpB.op (bs_set rfl ap_112 ze_44 rfl rfl ?_))
    refine AL.n ?_
    refine AL.ra ?_
    refine AL.nil ?_
    change AW _ _ _ _ _
    refine AW.ret ?_
    change ResA _ _ _ _ _
    refine res1 rfl (ResV.tmp rfl) rfl ?_
    (have hr : rightL x = true := (by assumption)); rw [comesL, if_neg (by rw [hr]; decide)]; simp_all [besR, RefD.cs]
   ·skip
    refine AW.seq ?_
    refine AW.region ?_
    refine AL.r (rd_bin rfl rfl rfl (fun _ => rfl)) ?_
    refine AL.ra ?_
    refine AL.nil ?_
    change AW _ _ _ _ _
    refine AW.cd rfl (fun h16 => ?_) (fun h16 => ?_)
    ·skip
     refine AW.seq ?_
     refine AW.region ?_
     refine AL.r (rd_faddr_ep rfl fo_50_5 rfl) ?_
     refine AL.r (rd_faddr_ep rfl fo_47_0 rfl) ?_
     refine AL.r (rd_loadN_ep rfl ag_44 rfl (Nat.le_of_ble_eq_true rfl) rfl) ?_
     refine AL.op rfl (AOpB.op (bs_set rfl ap_112 ze_44 rfl rfl ?_))
     refine AL.n ?_
     refine AL.ra ?_
     refine AL.nil ?_
     change AW _ _ _ _ _
     refine AW.ret ?_
     change ResA _ _ _ _ _
     refine res1 rfl (ResV.tmp rfl) rfl ?_
     (have hr : rightL x = true := (by assumption)); rw [comesL, if_neg (by rw [hr]; decide)]; simp_all [besR, RefD.cs]
    ·skip
     refine AW.seq ?_
     refine AW.region ?_
     refine AL.r (rd_bin rfl rfl rfl (fun _ => rfl)) ?_
     refine AL.ra ?_
     refine AL.nil ?_
     change AW _ _ _ _ _
     refine AW.cd rfl (fun h22 => ?_) (fun h22 => ?_)
     ·skip
      refine AW.seq ?_
      refine AW.region ?_
      refine AL.ra ?_
      refine AL.nil ?_
      change AW _ _ _ _ _
      refine AW.ret ?_
      change ResA _ _ _ _ _
      refine res1 rfl (ResV.tmp rfl) rfl ?_
      (have hr : rightL x = true := (by assumption)); rw [comesL, if_neg (by rw [hr]; decide)]; simp_all [besR, RefD.cs]
     ·skip
      refine AW.seq ?_
      refine AW.region ?_
      refine AL.r (rd_bin rfl rfl rfl (fun _ => rfl)) ?_
      refine AL.ra ?_
      refine AL.nil ?_
      change AW _ _ _ _ _
      refine AW.cd rfl (fun h24 => ?_) (fun h24 => ?_)
      ·skip
       refine AW.seq ?_
       refine AW.region ?_
       refine AL.r (rd_faddr_ep rfl fo_50_1 rfl) ?_
       refine AL.r (rd_faddr_ep rfl fo_44_0 rfl) ?_
       refine AL.r (rd_load_ep rfl ag_3 rfl rfl) ?_
       refine AL.r (rd_faddr_ep rfl fo_50_1 rfl) ?_
       refine AL.r (rd_faddr_ep rfl fo_44_2 rfl) ?_
       refine AL.r (rd_load_ep rfl ag_9 rfl rfl) ?_
       refine AL.r (rd_build rfl pl_44 ze_44 rfl rfl) ?_
       refine AL.op rfl (AOpB.op (bs_set rfl ap_112 ze_44 rfl rfl ?_))
       refine AL.n ?_
       refine AL.ra ?_
       refine AL.nil ?_
       change AW _ _ _ _ _
       refine AW.ret ?_
       change ResA _ _ _ _ _
       refine res1 rfl (ResV.tmp rfl) rfl ?_
       (have hr : rightL x = true := (by assumption)); rw [comesL, if_neg (by rw [hr]; decide)]; simp_all [besR, RefD.cs]
      ·skip
       refine AW.seq ?_
       refine AW.region ?_
       refine AL.r (rd_bin rfl rfl rfl (fun _ => rfl)) ?_
       refine AL.ra ?_
       refine AL.nil ?_
       change AW _ _ _ _ _
       refine AW.cd rfl (fun h34 => ?_) (fun h34 => ?_)
       ·skip
        refine AW.seq ?_
        refine AW.region ?_
        refine AL.r (rd_faddr_ep rfl fo_50_1 rfl) ?_
        refine AL.r (rd_faddr_ep rfl fo_44_0 rfl) ?_
        refine AL.r (rd_load_ep rfl ag_3 rfl rfl) ?_
        refine AL.r (rd_faddr_ep rfl fo_50_2 rfl) ?_
        refine AL.r (rd_load_ep rfl ag_9 rfl rfl) ?_
        refine AL.r (rd_faddr_ep rfl fo_50_1 rfl) ?_
        refine AL.r (rd_faddr_ep rfl fo_44_2 rfl) ?_
        refine AL.r (rd_load_ep rfl ag_9 rfl rfl) ?_
        refine AL.r (rd_build rfl pl_44 ze_44 rfl rfl) ?_
        refine AL.op rfl (AOpB.op (bs_set rfl ap_112 ze_44 rfl rfl ?_))
        refine AL.n ?_
        refine AL.ra ?_
        refine AL.nil ?_
        change AW _ _ _ _ _
        refine AW.ret ?_
        change ResA _ _ _ _ _
        refine res1 rfl (ResV.tmp rfl) rfl ?_
        (have hr : rightL x = true := (by assumption)); rw [comesL, if_neg (by rw [hr]; decide)]; simp_all [besR, RefD.cs]
       ·skip
        refine AW.seq ?_
        refine AW.region ?_
        refine AL.r (rd_bin rfl rfl rfl (fun _ => rfl)) ?_
        refine AL.ra ?_
        refine AL.nil ?_
        change AW _ _ _ _ _
        refine AW.cd rfl (fun h46 => ?_) (fun h46 => ?_)
        ·skip
         refine AW.seq ?_
         refine AW.draw (by kernel_rfl) ?_
         refine AD.r 0 rfl (rd_faddr_ep rfl fo_50_1 rfl) rfl ?_
         refine AD.r 1 rfl (rd_loadN_ep rfl ag_44 rfl (Nat.le_of_ble_eq_true rfl) rfl) rfl ?_
         refine AD.r 2 rfl (rd_faddr_ep rfl fo_50_2 rfl) rfl ?_
         refine AD.r 3 rfl (rd_load_ep rfl ag_9 rfl rfl) rfl ?_
         refine AD.r 5 rfl (rd_faddr_ep rfl fo_50_1 rfl) rfl ?_
         refine AD.r 6 rfl (rd_loadN_ep rfl ag_44 rfl (Nat.le_of_ble_eq_true rfl) rfl) rfl ?_
         refine AD.r 7 rfl (rd_faddr_ep rfl fo_50_3 rfl) rfl ?_
         refine AD.r 8 rfl (rd_load_ep rfl ag_9 rfl rfl) rfl ?_
         refine AD.move 4 rfl (by kernel_rfl) rfl (op_call (beside_c x.at_ x.name) rfl (by kernel_rfl) rfl (none) ?_)
         rintro r rfl
         refine AD.n ?_
         refine AD.move 9 rfl (by kernel_rfl) rfl (op_call (beside_c x.at_ x.other) rfl (by kernel_rfl) rfl (none) ?_)
         rintro r rfl
         refine AD.n ?_
         refine AD.move 10 rfl (by kernel_rfl) rfl (bs_set rfl ap_112 ze_44 rfl rfl ?_)
         refine AD.n ?_
         refine AD.r 11 rfl (rd_assign rfl rfl) rfl ?_
         refine AD.done (by kernel_rfl) ?_
         change AW _ _ _ _ _
         refine AW.ret ?_
         change ResA _ _ _ _ _
         refine res1 rfl (ResV.tmp rfl) rfl ?_
         (have hr : rightL x = true := (by assumption)); rw [comesL, if_neg (by rw [hr]; decide)]; simp_all [besR, RefD.cs]
        ·skip
         refine AW.skip ?_
         change AW _ _ _ _ _
         refine AW.seq ?_
         refine AW.region ?_
         refine AL.r (rd_faddr_ep rfl fo_50_1 rfl) ?_
         refine AL.r (rd_loadN_ep rfl ag_44 rfl (Nat.le_of_ble_eq_true rfl) rfl) ?_
         refine AL.op rfl (AOpB.op (bs_set rfl ap_112 ze_44 rfl rfl ?_))
         refine AL.n ?_
         refine AL.ra ?_
         refine AL.nil ?_
         change AW _ _ _ _ _
         refine AW.ret ?_
         change ResA _ _ _ _ _
         refine res1 rfl (ResV.tmp rfl) rfl ?_
         (have hr : rightL x = true := (by assumption)); rw [comesL, if_neg (by rw [hr]; decide)]; simp_all [besR, RefD.cs]
theorem lfroms_c (t : List PairD) (ht : t.length ≤ 1000000) : AC Try.prog 109 [.sl (t.map PairD.cs)] (fun x => x = .s (.sl (csS (t.map PairD.from_)))) := by
  refine AC.of' 21 4 Try.func109 rfl ?_
  change AW _ _ _ _ [TK.mk 0 .off, TK.mk 0 .off, TK.mk 0 .off, TK.mk 0 .off]
  refine AW.seq ?_
  refine AW.region ?_
  refine AL.ra ?_
  refine AL.nil ?_
  change AW _ _ _ _ _
  refine AW.seq ?_
  refine AW.region ?_
  refine AL.rm ?_
  refine AL.r (rd_len_sl rfl el_48 rfl) ?_
  refine AL.op rfl (AOpB.op (op_make0 0 rfl ap_45 rfl rfl rfl (by omega) (by omega) rfl ?_))
  refine AL.n ?_
  refine AL.ra ?_
  refine AL.nil ?_
  change AW _ _ _ _ _
  refine AW.seq ?_
  refine AW.seq ?_
  refine AW.region ?_
  refine AL.rm ?_
  refine AL.r (rd_len_sl rfl el_48 rfl) ?_
  refine AL.rm ?_
  refine AL.nil ?_
  change AW _ _ _ _ _
  refine AW.block ?_
  refine AW.loopM (ι := Nat × Nat) [5, 12, 13, 14, 15, 16, 17, 18, 19, 20] (fun ⟨k, g⟩ => [(11, AI (k : Int)), (3, .ow 0 g)]) [1, 2, 3] (fun ⟨k, g⟩ => [(0, ⟨g, .own 9 1 ((t.take k).map fun p => [AS p.from_])⟩)]) (fun ⟨k, g⟩ => k ≤ t.length) (fun ⟨k, g⟩ => t.length - k) ⟨0, 1⟩ (Nat.zero_le _) (by simp only [anys, upds, offs, List.set_cons_zero, List.set_cons_succ]; repeat (first | exact Wk.nil | refine Wk.same ?_ | refine Wk.any ?_)) (by simp only [anys, upds, offs, List.set_cons_zero, List.set_cons_succ]; repeat (first | exact Sk.nil _ | refine Sk.same _ ?_ | refine Sk.scr _ (by decide) ?_)) ?_
  rintro ⟨k, g⟩ gs hJ
  refine AW.norm (by simp only [anys, upds, offs, List.set_cons_zero, List.set_cons_succ]; rfl) (by (try simp only [anys, upds, offs, List.set_cons_zero, List.set_cons_succ]); (try rfl)) ?_
  refine AW.seq ?_
  refine AW.region ?_
  refine AL.r (rd_bin rfl rfl rfl (fun _ => rfl)) ?_
  refine AL.nil ?_
  change AW _ _ _ _ _
  refine AW.seq ?_
  refine AW.cd rfl (fun h12 => ?_) (fun h12 => ?_)
  ·skip
   refine AW.skip ?_
   change AW _ _ _ _ _
   refine AW.seq ?_
   refine AW.block ?_
   refine AW.seq ?_
   refine AW.region ?_
   refine AL.r (rd_iaddr_sl rfl el_48 rfl rfl rfl (get_mapA (by omega)) rfl) ?_
   refine AL.r (rd_loadN_ep rfl ag_152 rfl (Nat.le_of_ble_eq_true rfl) rfl) ?_
   refine AL.op rfl (AOpB.op (op_alloc 1 rfl ze_152 rfl ?_))
   refine AL.n ?_
   refine AL.op rfl (op_store_ rfl rfl rfl rfl rfl sz_152 ?_)
   refine AL.n ?_
   refine AL.nil ?_
   change AW _ _ _ _ _
   refine AW.region ?_
   refine AL.rm ?_
   refine AL.r (rd_faddr_bx rfl fo_152_0 rfl rfl ⟨_, _, rfl⟩) ?_
   refine AL.r (rd_load_bx rfl ag_9 rfl rfl rfl) ?_
   refine AL.op rfl (AOpB.op (bs_set rfl ap_45 ze_9 rfl rfl ?_))
   refine AL.n ?_
   refine AL.op rfl (op_append rfl ap_45 rfl rfl (src_s rfl) (by first | omega | (simp; omega) | simp) (by first | omega | (simp; omega) | simp) ?_)
   refine AL.n ?_
   refine AL.ra ?_
   refine AL.nil ?_
   change AW _ _ _ _ _
   refine AW.region ?_
   refine AL.r (rd_arith_add rfl rfl rfl (by first | exact IntWalk.i64_in _ (by omega) | rfl)) ?_
   refine AL.rm ?_
   refine AL.nil ?_
   refine ⟨⟨k + 1, g + 1⟩, ?_, by first | omega | (simp only []; omega), ?_, ?_⟩
   ·show k + 1 ≤ t.length; omega
   ·simp only [anys, upds, offs, List.set_cons_zero, List.set_cons_succ]; repeat (first | exact Wk.nil | refine Wk.same ?_ | refine Wk.any ?_)
   ·simp only [anys, upds, offs, List.set_cons_zero, List.set_cons_succ]; repeat (first | exact Sk.nil _ | refine Sk.same _ ?_ | refine Sk.scr _ (by decide) ?_ | refine Sk.eq _ (by exact congrArg (fun xs => TK.mk (g + 1) (.own 9 1 xs)) (take_map_next (f := fun p : PairD => [AS p.from_]) (by omega))) ?_)
  ·skip
   refine AW.exit ?_
   change AW _ _ _ _ _
   refine AW.seq ?_
   refine AW.region ?_
   refine AL.rm ?_
   refine AL.ra ?_
   refine AL.nil ?_
   change AW _ _ _ _ _
   refine AW.ret ?_
   change ResA _ _ _ _ _
   refine res1 rfl (ResV.tmp rfl) (by first | rfl | exact setA_own rfl) ?_
   rw [List.take_of_length_le (by omega)]; simp [csS]
end Go.Proofs.Ytdgcbhihmnhnaaa
