/- The log's functions Add, Sync, Empty, walked over abstract states. -/
import Derived.Test.YtgjpeldgjpgbcaaLogA
namespace Go.Proofs.Ytgjpeldgjpgbcaa
set_option linter.unusedSimpArgs false
set_option linter.unusedVariables false
set_option maxRecDepth 100000
open Go.RowKit

structure LogD.Ok (L : LogD) : Prop where
  r : 0 ≤ L.records ∧ L.records ≤ 1000000000000
  u : 0 ≤ L.used ∧ L.used ≤ 1000000000000
  f : 0 ≤ L.fresh ∧ L.fresh ≤ 1000000000000
def addR (t : Nat → Nat) (L : LogD) (d : DiskD) (b : List UInt8) : Int := if (L.down || d.dark) = true then 10 else if 60000 < b.length then 14 else appRi d L.file (frameN t b)
def addL (t : Nat → Nat) (L : LogD) (d : DiskD) (b : List UInt8) : LogD := if (L.down || d.dark) = true then { L with down := true } else if 60000 < b.length then L else if appRi d L.file (frameN t b) = 0 then { L with records := L.records + 1, used := L.used + (frameN t b).length, fresh := L.fresh + 1 } else { L with down := decide (appRi d L.file (frameN t b) = 10) }
def addD (t : Nat → Nat) (L : LogD) (d : DiskD) (b : List UInt8) : DiskD := if (L.down || d.dark) = true then d else if 60000 < b.length then d else appDi d L.file (frameN t b)
def lsyncR (L : LogD) (d : DiskD) : Int := if (L.down || d.dark) = true then 10 else syncR d
def lsyncL (L : LogD) (d : DiskD) : LogD := if (L.down || d.dark) = true then { L with down := true } else if syncR d = 0 then { L with fresh := 0 } else { L with down := decide (syncR d = 10) }
def lsyncD (L : LogD) (d : DiskD) : DiskD := if (L.down || d.dark) = true then d else syncD d
def emptyR (L : LogD) (d : DiskD) : Int := if (L.down || d.dark) = true then 10 else cutRi d L.file 0
def emptyL (L : LogD) (d : DiskD) : LogD := if (L.down || d.dark) = true then { L with down := true } else if cutRi d L.file 0 = 0 then { L with records := 0, used := 0, fresh := 0 } else { L with down := decide (cutRi d L.file 0 = 10) }
def emptyD (L : LogD) (d : DiskD) : DiskD := if (L.down || d.dark) = true then d else cutDi d L.file 0
def pB (t : Nat → Nat) (b : List UInt8) : List UInt8 := if 60000 < b.length then [] else frameN t b
def pC (b : List UInt8) : Int := if 60000 < b.length then 14 else 0
theorem pC_zero {b : List UInt8} (h : pC b = 0) : ¬ 60000 < b.length := by unfold pC at h; split at h <;> omega
theorem pC_ne {b : List UInt8} (h : ¬ pC b = 0) : 60000 < b.length := by unfold pC at h; split at h <;> omega
theorem fput2 (t : Nat → Nat) (ht : ∀ i, i < 256 → t i < 4294967296) (b : List UInt8) : AC Try.prog 79 [.sl (byA []), .sc (tabV t), .sl (byA b)] (fun r => r = .s (.tu [.sl (byA (pB t b)), .sc (.int .i64 (pC b))])) :=
  (fput_c t ht [] b (Nat.zero_le _)).mono fun r hr => by rw [hr]; unfold putR pB pC; split <;> rfl
section
variable (g G : Nat) (t : Nat → Nat) (ht : ∀ i, i < 256 → t i < 4294967296) (L : LogD) (hL : L.Ok) {k : Nat} (d : DiskD) (hd : d.Ok k) (hk : k ≤ 1000000)
include ht hL hd hk
theorem ladd_c (b : List UInt8) : ACo Try.prog 39 [.bx 0 g 0, .sl (byA b)] (LogT g G t L d) (fun y os' => y = .sc (.int .i64 (addR t L d b)) ∧ os' = LogT g G t (addL t L d b) (addD t L d b)) := by
  have h1 := hL.r; have h2 := hL.u; have h3 := hL.f
  have hfl := frameN_len t b
  refine ACo.of' (st0 := [⟨g, .box 111 (fatC [.bx 1 G 0] t [.sc (.int .i64 L.file), .sc (.bool L.down), .sc (.int .i64 L.records), .sc (.int .i64 L.used), .sc (.int .i64 L.fresh)])⟩, ⟨G, .obj (DiskP d)⟩]) 61 0 Try.func39 rfl 2 ?_
  refine AW.seq ?_
  refine AW.region ?_
  refine AL.ra ?_
  refine AL.nil ?_
  change AW _ _ _ _ _
  refine AW.seq ?_
  refine AW.seq ?_
  refine AW.region ?_
  refine AL.rm ?_
  refine AL.op rfl (calloL (lready_c g G t L d) [0, 1] ?_)
  rintro y os' ⟨rfl, rfl⟩
  refine AL.noL ?_
  refine AL.ra ?_
  refine AL.nil ?_
  change AW _ _ _ _ _
  refine AW.seq ?_
  refine AW.region ?_
  refine AL.rm ?_
  refine AL.r (rd_bin rfl rfl rfl (fun _ => rfl)) ?_
  refine AL.nil ?_
  change AW _ _ _ _ _
  refine AW.cd rfl (fun h11 => ?_) (fun h11 => ?_)
  ·skip
   refine AW.seq ?_
   refine AW.region ?_
   refine AL.rm ?_
   refine AL.ra ?_
   refine AL.nil ?_
   change AW _ _ _ _ _
   refine AW.ret ?_
   repeat with_reducible first | refine thenA_ret ?_ | refine inBlockA_ret ?_
   with_reducible first | refine retO_ret ?_ | refine retO_normal ?_
   refine reso1L rfl (ResV.tmp rfl) rfl ?_
   have hdn : (L.down || d.dark) = true := (by cases hx : (L.down || d.dark) <;> simp_all)
   simp [addR, addL, addD, LogT, hdn]
  ·skip
   refine AW.skip ?_
   change AW _ _ _ _ _
   refine AW.seq ?_
   refine AW.region ?_
   have hdn : (L.down || d.dark) = false := (by cases hx : (L.down || d.dark) <;> simp_all)
   rw [hdn]
   refine AL.rm ?_
   refine AL.r (rd_nilc_bx rfl rfl rfl) ?_
   refine AL.r (rd_faddr_bx rfl fo_111_1 rfl rfl ⟨_, _, rfl⟩) ?_
   refine AL.r (rd_fat_tab rfl ag_53 rfl rfl rfl) ?_
   refine AL.rm ?_
   refine AL.op rfl (AOpB.op (op_call (fput2 t ht b) rfl (by kernel_rfl) rfl (none) ?_))
   rintro r rfl
   refine AL.no ?_
   refine AL.rm ?_
   refine AL.r (rd_extract rfl rfl rfl) ?_
   refine AL.r (rd_extract rfl rfl rfl) ?_
   refine AL.ra ?_
   refine AL.ra ?_
   refine AL.nil ?_
   change AW _ _ _ _ _
   refine AW.seq ?_
   refine AW.seq ?_
   refine AW.region ?_
   refine AL.rm ?_
   refine AL.r (rd_bin rfl rfl rfl (fun _ => rfl)) ?_
   refine AL.nil ?_
   change AW _ _ _ _ _
   refine AW.cd rfl (fun h23 => ?_) (fun h23 => ?_)
   ·skip
    refine AW.seq ?_
    refine AW.region ?_
    refine AL.rm ?_
    refine AL.ra ?_
    refine AL.nil ?_
    change AW _ _ _ _ _
    refine AW.ret ?_
    repeat with_reducible first | refine thenA_ret ?_ | refine inBlockA_ret ?_
    with_reducible first | refine retO_ret ?_ | refine retO_normal ?_
    refine reso1L rfl (ResV.tmp rfl) rfl ?_
    have hb6 := pC_ne h23
    obtain ⟨hdl, hdk⟩ := Bool.or_eq_false_iff.1 hdn
    simp [addR, addL, addD, LogT, hb6, pC, hdl, hdk]
   ·skip
    refine AW.skip ?_
    change AW _ _ _ _ _
    refine AW.seq ?_
    refine AW.seq ?_
    refine AW.drawA (by kernel_rfl) ?_
    have hb6 := pC_zero h23
    rw [show pB t b = frameN t b from if_neg hb6]
    refine ADA.r 0 rfl (ARdP.a (rdP_move rfl rfl)) rfl ?_
    refine ADA.r 1 rfl (ARdP.a (rdP_move rfl rfl)) rfl ?_
    refine ADA.r 2 rfl (ARdP.a (rdP_nilc_bx rfl rfl rfl)) rfl ?_
    refine ADA.r 3 rfl (ARdP.a (rdP_faddr_bx rfl fo_111_0 rfl rfl ⟨_, _, rfl⟩)) rfl ?_
    refine ADA.r 5 rfl (ARdP.a (rdP_move rfl rfl)) rfl ?_
    refine ADA.r 6 rfl (ARdP.a (rdP_nilc_bx rfl rfl rfl)) rfl ?_
    refine ADA.r 7 rfl (ARdP.a (rdP_faddr_bx rfl fo_111_2 rfl rfl ⟨_, _, rfl⟩)) rfl ?_
    refine ADA.r 9 rfl (ARdP.a (rdP_move rfl rfl)) rfl ?_
    refine ADA.b ?_
    refine ADB.all (is := [4, 8]) (by kernel_rfl) (by simp) ?_
    intro i hi
    simp only [List.mem_cons, List.not_mem_nil, or_false] at hi
    rcases hi with rfl | rfl
    ·skip
     refine ⟨_, rfl, rfl, AOpB.op (ARd.opB (rd_load_bx rfl ag_25 rfl rfl (fat_pre rfl)) ?_)⟩
     refine ADB.n ?_
     refine ADB.mv 8 rfl (AOpB.op (ARd.opB (rd_load_bx rfl ag_3 rfl rfl (fat_post 0 rfl rfl)) ?_))
     refine ADB.n ?_
     refine ADB.mv 10 rfl (calloL (ok_append hd hk G L.file (frameN t b) (by omega)) [1] ?_)
     rintro y os' ⟨rfl, rfl⟩
     refine ADB.noL ?_
     refine ADB.mv 11 rfl (calloL (lheard_c g G t { L with down := false } (appDi d L.file (frameN t b)) (appRi d L.file (frameN t b))) [0, 1] ?_)
     rintro y os' ⟨rfl, rfl⟩
     refine ADB.noL ?_
     refine ADB.r 12 rfl (rdP_assign rfl rfl) rfl ?_
     refine ADB.done (by kernel_rfl) ?_
     change AW _ _ _ _ _
     refine AW.seq ?_
     refine AW.region ?_
     refine AL.rm ?_
     refine AL.r (rd_bin rfl rfl rfl (fun _ => rfl)) ?_
     refine AL.nil ?_
     change AW _ _ _ _ _
     refine AW.cd rfl (fun h38 => ?_) (fun h38 => ?_)
     ·skip
      refine AW.seq ?_
      refine AW.region ?_
      refine AL.rm ?_
      refine AL.ra ?_
      refine AL.nil ?_
      change AW _ _ _ _ _
      refine AW.ret ?_
      repeat with_reducible first | refine thenA_ret ?_ | refine inBlockA_ret ?_
      with_reducible first | refine retO_ret ?_ | refine retO_normal ?_
      refine reso1L rfl (ResV.tmp rfl) rfl ?_
      obtain ⟨hdl, hdk⟩ := Bool.or_eq_false_iff.1 hdn
      simp [addR, addL, addD, LogT, hb6, h38, hdl, hdk]
     ·skip
      refine AW.skip ?_
      change AW _ _ _ _ _
      refine AW.seq ?_
      refine AW.region ?_
      refine AL.rm ?_
      refine AL.r (rd_nilc_bx rfl rfl rfl) ?_
      refine AL.r (rd_faddr_bx rfl fo_111_4 rfl rfl ⟨_, _, rfl⟩) ?_
      refine AL.r (rd_load_bx rfl ag_3 rfl rfl (fat_post 2 rfl rfl)) ?_
      refine AL.r (rd_arith_add rfl rfl rfl (by first | exact IntWalk.i64_in _ (by omega) | rfl)) ?_
      refine AL.r (rd_nilc_bx rfl rfl rfl) ?_
      refine AL.r (rd_faddr_bx rfl fo_111_4 rfl rfl ⟨_, _, rfl⟩) ?_
      refine AL.op rfl (op_fatstore 2 rfl rfl rfl rfl (Nat.le_of_ble_eq_true rfl) rfl rfl rfl sz_3 ?_)
      refine AL.no ?_
      refine AL.nil ?_
      change AW _ _ _ _ _
      refine AW.seq ?_
      refine AW.region ?_
      refine AL.rm ?_
      refine AL.r (rd_nilc_bx rfl rfl rfl) ?_
      refine AL.r (rd_faddr_bx rfl fo_111_5 rfl rfl ⟨_, _, rfl⟩) ?_
      refine AL.r (rd_load_bx rfl ag_3 rfl rfl (fat_post 3 rfl rfl)) ?_
      refine AL.rm ?_
      refine AL.r (rd_len_sl rfl el_29 rfl) ?_
      refine AL.r (rd_arith_add rfl rfl rfl (by first | exact IntWalk.i64_in _ (by omega) | rfl)) ?_
      refine AL.r (rd_nilc_bx rfl rfl rfl) ?_
      refine AL.r (rd_faddr_bx rfl fo_111_5 rfl rfl ⟨_, _, rfl⟩) ?_
      refine AL.op rfl (op_fatstore 3 rfl rfl rfl rfl (Nat.le_of_ble_eq_true rfl) rfl rfl rfl sz_3 ?_)
      refine AL.no ?_
      refine AL.nil ?_
      change AW _ _ _ _ _
      refine AW.seq ?_
      refine AW.region ?_
      refine AL.rm ?_
      refine AL.r (rd_nilc_bx rfl rfl rfl) ?_
      refine AL.r (rd_faddr_bx rfl fo_111_6 rfl rfl ⟨_, _, rfl⟩) ?_
      refine AL.r (rd_load_bx rfl ag_3 rfl rfl (fat_post 4 rfl rfl)) ?_
      refine AL.r (rd_arith_add rfl rfl rfl (by first | exact IntWalk.i64_in _ (by omega) | rfl)) ?_
      refine AL.r (rd_nilc_bx rfl rfl rfl) ?_
      refine AL.r (rd_faddr_bx rfl fo_111_6 rfl rfl ⟨_, _, rfl⟩) ?_
      refine AL.op rfl (op_fatstore 4 rfl rfl rfl rfl (Nat.le_of_ble_eq_true rfl) rfl rfl rfl sz_3 ?_)
      refine AL.no ?_
      refine AL.nil ?_
      change AW _ _ _ _ _
      refine AW.seq ?_
      refine AW.region ?_
      refine AL.ra ?_
      refine AL.nil ?_
      change AW _ _ _ _ _
      refine AW.ret ?_
      repeat with_reducible first | refine thenA_ret ?_ | refine inBlockA_ret ?_
      with_reducible first | refine retO_ret ?_ | refine retO_normal ?_
      refine reso1L rfl (ResV.tmp rfl) rfl ?_
      obtain ⟨hdl, hdk⟩ := Bool.or_eq_false_iff.1 hdn
      simp [addR, addL, addD, LogT, hb6, h38, byA_len, hdl, hdk]
    ·skip
     refine ⟨_, rfl, rfl, AOpB.op (ARd.opB (rd_load_bx rfl ag_3 rfl rfl (fat_post 0 rfl rfl)) ?_)⟩
     refine ADB.n ?_
     refine ADB.mv 4 rfl (AOpB.op (ARd.opB (rd_load_bx rfl ag_25 rfl rfl (fat_pre rfl)) ?_))
     refine ADB.n ?_
     refine ADB.mv 10 rfl (calloL (ok_append hd hk G L.file (frameN t b) (by omega)) [1] ?_)
     rintro y os' ⟨rfl, rfl⟩
     refine ADB.noL ?_
     refine ADB.mv 11 rfl (calloL (lheard_c g G t { L with down := false } (appDi d L.file (frameN t b)) (appRi d L.file (frameN t b))) [0, 1] ?_)
     rintro y os' ⟨rfl, rfl⟩
     refine ADB.noL ?_
     refine ADB.r 12 rfl (rdP_assign rfl rfl) rfl ?_
     refine ADB.done (by kernel_rfl) ?_
     change AW _ _ _ _ _
     refine AW.seq ?_
     refine AW.region ?_
     refine AL.rm ?_
     refine AL.r (rd_bin rfl rfl rfl (fun _ => rfl)) ?_
     refine AL.nil ?_
     change AW _ _ _ _ _
     refine AW.cd rfl (fun h38 => ?_) (fun h38 => ?_)
     ·skip
      refine AW.seq ?_
      refine AW.region ?_
      refine AL.rm ?_
      refine AL.ra ?_
      refine AL.nil ?_
      change AW _ _ _ _ _
      refine AW.ret ?_
      repeat with_reducible first | refine thenA_ret ?_ | refine inBlockA_ret ?_
      with_reducible first | refine retO_ret ?_ | refine retO_normal ?_
      refine reso1L rfl (ResV.tmp rfl) rfl ?_
      obtain ⟨hdl, hdk⟩ := Bool.or_eq_false_iff.1 hdn
      simp [addR, addL, addD, LogT, hb6, h38, hdl, hdk]
     ·skip
      refine AW.skip ?_
      change AW _ _ _ _ _
      refine AW.seq ?_
      refine AW.region ?_
      refine AL.rm ?_
      refine AL.r (rd_nilc_bx rfl rfl rfl) ?_
      refine AL.r (rd_faddr_bx rfl fo_111_4 rfl rfl ⟨_, _, rfl⟩) ?_
      refine AL.r (rd_load_bx rfl ag_3 rfl rfl (fat_post 2 rfl rfl)) ?_
      refine AL.r (rd_arith_add rfl rfl rfl (by first | exact IntWalk.i64_in _ (by omega) | rfl)) ?_
      refine AL.r (rd_nilc_bx rfl rfl rfl) ?_
      refine AL.r (rd_faddr_bx rfl fo_111_4 rfl rfl ⟨_, _, rfl⟩) ?_
      refine AL.op rfl (op_fatstore 2 rfl rfl rfl rfl (Nat.le_of_ble_eq_true rfl) rfl rfl rfl sz_3 ?_)
      refine AL.no ?_
      refine AL.nil ?_
      change AW _ _ _ _ _
      refine AW.seq ?_
      refine AW.region ?_
      refine AL.rm ?_
      refine AL.r (rd_nilc_bx rfl rfl rfl) ?_
      refine AL.r (rd_faddr_bx rfl fo_111_5 rfl rfl ⟨_, _, rfl⟩) ?_
      refine AL.r (rd_load_bx rfl ag_3 rfl rfl (fat_post 3 rfl rfl)) ?_
      refine AL.rm ?_
      refine AL.r (rd_len_sl rfl el_29 rfl) ?_
      refine AL.r (rd_arith_add rfl rfl rfl (by first | exact IntWalk.i64_in _ (by omega) | rfl)) ?_
      refine AL.r (rd_nilc_bx rfl rfl rfl) ?_
      refine AL.r (rd_faddr_bx rfl fo_111_5 rfl rfl ⟨_, _, rfl⟩) ?_
      refine AL.op rfl (op_fatstore 3 rfl rfl rfl rfl (Nat.le_of_ble_eq_true rfl) rfl rfl rfl sz_3 ?_)
      refine AL.no ?_
      refine AL.nil ?_
      change AW _ _ _ _ _
      refine AW.seq ?_
      refine AW.region ?_
      refine AL.rm ?_
      refine AL.r (rd_nilc_bx rfl rfl rfl) ?_
      refine AL.r (rd_faddr_bx rfl fo_111_6 rfl rfl ⟨_, _, rfl⟩) ?_
      refine AL.r (rd_load_bx rfl ag_3 rfl rfl (fat_post 4 rfl rfl)) ?_
      refine AL.r (rd_arith_add rfl rfl rfl (by first | exact IntWalk.i64_in _ (by omega) | rfl)) ?_
      refine AL.r (rd_nilc_bx rfl rfl rfl) ?_
      refine AL.r (rd_faddr_bx rfl fo_111_6 rfl rfl ⟨_, _, rfl⟩) ?_
      refine AL.op rfl (op_fatstore 4 rfl rfl rfl rfl (Nat.le_of_ble_eq_true rfl) rfl rfl rfl sz_3 ?_)
      refine AL.no ?_
      refine AL.nil ?_
      change AW _ _ _ _ _
      refine AW.seq ?_
      refine AW.region ?_
      refine AL.ra ?_
      refine AL.nil ?_
      change AW _ _ _ _ _
      refine AW.ret ?_
      repeat with_reducible first | refine thenA_ret ?_ | refine inBlockA_ret ?_
      with_reducible first | refine retO_ret ?_ | refine retO_normal ?_
      refine reso1L rfl (ResV.tmp rfl) rfl ?_
      obtain ⟨hdl, hdk⟩ := Bool.or_eq_false_iff.1 hdn
      simp [addR, addL, addD, LogT, hb6, h38, byA_len, hdl, hdk]
omit ht hL in
theorem lsync_c : ACo Try.prog 40 [.bx 0 g 0] (LogT g G t L d) (fun y os' => y = .sc (.int .i64 (lsyncR L d)) ∧ os' = LogT g G t (lsyncL L d) (lsyncD L d)) := by
  refine ACo.of' (st0 := [⟨g, .box 111 (fatC [.bx 1 G 0] t [.sc (.int .i64 L.file), .sc (.bool L.down), .sc (.int .i64 L.records), .sc (.int .i64 L.used), .sc (.int .i64 L.fresh)])⟩, ⟨G, .obj (DiskP d)⟩]) 22 0 Try.func40 rfl 2 ?_
  refine AW.seq ?_
  refine AW.region ?_
  refine AL.ra ?_
  refine AL.nil ?_
  change AW _ _ _ _ _
  refine AW.seq ?_
  refine AW.seq ?_
  refine AW.region ?_
  refine AL.rm ?_
  refine AL.op rfl (calloL (lready_c g G t L d) [0, 1] ?_)
  rintro y os' ⟨rfl, rfl⟩
  refine AL.noL ?_
  refine AL.ra ?_
  refine AL.nil ?_
  change AW _ _ _ _ _
  refine AW.seq ?_
  refine AW.region ?_
  refine AL.rm ?_
  refine AL.r (rd_bin rfl rfl rfl (fun _ => rfl)) ?_
  refine AL.nil ?_
  change AW _ _ _ _ _
  refine AW.cd rfl (fun h8 => ?_) (fun h8 => ?_)
  ·skip
   refine AW.seq ?_
   refine AW.region ?_
   refine AL.rm ?_
   refine AL.ra ?_
   refine AL.nil ?_
   change AW _ _ _ _ _
   refine AW.ret ?_
   repeat with_reducible first | refine thenA_ret ?_ | refine inBlockA_ret ?_
   with_reducible first | refine retO_ret ?_ | refine retO_normal ?_
   refine reso1L rfl (ResV.tmp rfl) rfl ?_
   have hdn : (L.down || d.dark) = true := (by cases hx : (L.down || d.dark) <;> simp_all)
   simp [lsyncR, lsyncL, lsyncD, LogT, hdn]
  ·skip
   refine AW.skip ?_
   change AW _ _ _ _ _
   refine AW.seq ?_
   refine AW.seq ?_
   refine AW.region ?_
   have hdn : (L.down || d.dark) = false := (by cases hx : (L.down || d.dark) <;> simp_all)
   rw [hdn]
   refine AL.rm ?_
   refine AL.rm ?_
   refine AL.r (rd_nilc_bx rfl rfl rfl) ?_
   refine AL.r (rd_faddr_bx rfl fo_111_0 rfl rfl ⟨_, _, rfl⟩) ?_
   refine AL.r (rd_load_bx rfl ag_25 rfl rfl (fat_pre rfl)) ?_
   refine AL.op rfl (calloL (ok_sync hd hk G) [1] ?_)
   rintro y os' ⟨rfl, rfl⟩
   refine AL.noL ?_
   refine AL.op rfl (calloL (lheard_c g G t { L with down := false } (syncD d) (syncR d)) [0, 1] ?_)
   rintro y os' ⟨rfl, rfl⟩
   refine AL.noL ?_
   refine AL.ra ?_
   refine AL.nil ?_
   change AW _ _ _ _ _
   refine AW.seq ?_
   refine AW.region ?_
   refine AL.rm ?_
   refine AL.r (rd_bin rfl rfl rfl (fun _ => rfl)) ?_
   refine AL.nil ?_
   change AW _ _ _ _ _
   refine AW.cd rfl (fun h18 => ?_) (fun h18 => ?_)
   ·skip
    refine AW.seq ?_
    refine AW.region ?_
    refine AL.rm ?_
    refine AL.ra ?_
    refine AL.nil ?_
    change AW _ _ _ _ _
    refine AW.ret ?_
    repeat with_reducible first | refine thenA_ret ?_ | refine inBlockA_ret ?_
    with_reducible first | refine retO_ret ?_ | refine retO_normal ?_
    refine reso1L rfl (ResV.tmp rfl) rfl ?_
    obtain ⟨hdl, hdk⟩ := Bool.or_eq_false_iff.1 hdn
    simp [lsyncR, lsyncL, lsyncD, LogT, h18, hdl, hdk]
   ·skip
    refine AW.skip ?_
    change AW _ _ _ _ _
    refine AW.seq ?_
    refine AW.region ?_
    refine AL.rm ?_
    refine AL.r (rd_nilc_bx rfl rfl rfl) ?_
    refine AL.r (rd_faddr_bx rfl fo_111_6 rfl rfl ⟨_, _, rfl⟩) ?_
    refine AL.op rfl (op_fatstore 4 rfl rfl rfl rfl (Nat.le_of_ble_eq_true rfl) rfl rfl rfl sz_3 ?_)
    refine AL.no ?_
    refine AL.nil ?_
    change AW _ _ _ _ _
    refine AW.seq ?_
    refine AW.region ?_
    refine AL.ra ?_
    refine AL.nil ?_
    change AW _ _ _ _ _
    refine AW.ret ?_
    repeat with_reducible first | refine thenA_ret ?_ | refine inBlockA_ret ?_
    with_reducible first | refine retO_ret ?_ | refine retO_normal ?_
    refine reso1L rfl (ResV.tmp rfl) rfl ?_
    obtain ⟨hdl, hdk⟩ := Bool.or_eq_false_iff.1 hdn
    simp [lsyncR, lsyncL, lsyncD, LogT, h18, hdl, hdk]
omit ht hL in
theorem lempty_c : ACo Try.prog 46 [.bx 0 g 0] (LogT g G t L d) (fun y os' => y = .sc (.int .i64 (emptyR L d)) ∧ os' = LogT g G t (emptyL L d) (emptyD L d)) := by
  refine ACo.of' (st0 := [⟨g, .box 111 (fatC [.bx 1 G 0] t [.sc (.int .i64 L.file), .sc (.bool L.down), .sc (.int .i64 L.records), .sc (.int .i64 L.used), .sc (.int .i64 L.fresh)])⟩, ⟨G, .obj (DiskP d)⟩]) 32 0 Try.func46 rfl 2 ?_
  refine AW.seq ?_
  refine AW.region ?_
  refine AL.ra ?_
  refine AL.nil ?_
  change AW _ _ _ _ _
  refine AW.seq ?_
  refine AW.seq ?_
  refine AW.region ?_
  refine AL.rm ?_
  refine AL.op rfl (calloL (lready_c g G t L d) [0, 1] ?_)
  rintro y os' ⟨rfl, rfl⟩
  refine AL.noL ?_
  refine AL.ra ?_
  refine AL.nil ?_
  change AW _ _ _ _ _
  refine AW.seq ?_
  refine AW.region ?_
  refine AL.rm ?_
  refine AL.r (rd_bin rfl rfl rfl (fun _ => rfl)) ?_
  refine AL.nil ?_
  change AW _ _ _ _ _
  refine AW.cd rfl (fun h8 => ?_) (fun h8 => ?_)
  ·skip
   refine AW.seq ?_
   refine AW.region ?_
   refine AL.rm ?_
   refine AL.ra ?_
   refine AL.nil ?_
   change AW _ _ _ _ _
   refine AW.ret ?_
   repeat with_reducible first | refine thenA_ret ?_ | refine inBlockA_ret ?_
   with_reducible first | refine retO_ret ?_ | refine retO_normal ?_
   refine reso1L rfl (ResV.tmp rfl) rfl ?_
   have hdn : (L.down || d.dark) = true := (by cases hx : (L.down || d.dark) <;> simp_all)
   simp [emptyR, emptyL, emptyD, LogT, hdn]
  ·skip
   refine AW.skip ?_
   change AW _ _ _ _ _
   refine AW.seq ?_
   refine AW.seq ?_
   refine AW.drawA (by kernel_rfl) ?_
   have hdn : (L.down || d.dark) = false := (by cases hx : (L.down || d.dark) <;> simp_all)
   rw [hdn]
   refine ADA.r 0 rfl (ARdP.a (rdP_move rfl rfl)) rfl ?_
   refine ADA.r 1 rfl (ARdP.a (rdP_move rfl rfl)) rfl ?_
   refine ADA.r 2 rfl (ARdP.a (rdP_nilc_bx rfl rfl rfl)) rfl ?_
   refine ADA.r 3 rfl (ARdP.a (rdP_faddr_bx rfl fo_111_0 rfl rfl ⟨_, _, rfl⟩)) rfl ?_
   refine ADA.r 5 rfl (ARdP.a (rdP_move rfl rfl)) rfl ?_
   refine ADA.r 6 rfl (ARdP.a (rdP_nilc_bx rfl rfl rfl)) rfl ?_
   refine ADA.r 7 rfl (ARdP.a (rdP_faddr_bx rfl fo_111_2 rfl rfl ⟨_, _, rfl⟩)) rfl ?_
   refine ADA.b ?_
   refine ADB.all (is := [4, 8]) (by kernel_rfl) (by simp) ?_
   intro i hi
   simp only [List.mem_cons, List.not_mem_nil, or_false] at hi
   rcases hi with rfl | rfl
   ·skip
    refine ⟨_, rfl, rfl, AOpB.op (ARd.opB (rd_load_bx rfl ag_25 rfl rfl (fat_pre rfl)) ?_)⟩
    refine ADB.n ?_
    refine ADB.mv 8 rfl (AOpB.op (ARd.opB (rd_load_bx rfl ag_3 rfl rfl (fat_post 0 rfl rfl)) ?_))
    refine ADB.n ?_
    refine ADB.mv 9 rfl (calloL (ok_cut hd hk G L.file 0) [1] ?_)
    rintro y os' ⟨rfl, rfl⟩
    refine ADB.noL ?_
    refine ADB.mv 10 rfl (calloL (lheard_c g G t { L with down := false } (cutDi d L.file 0) (cutRi d L.file 0)) [0, 1] ?_)
    rintro y os' ⟨rfl, rfl⟩
    refine ADB.noL ?_
    refine ADB.r 11 rfl (rdP_assign rfl rfl) rfl ?_
    refine ADB.done (by kernel_rfl) ?_
    change AW _ _ _ _ _
    refine AW.seq ?_
    refine AW.region ?_
    refine AL.rm ?_
    refine AL.r (rd_bin rfl rfl rfl (fun _ => rfl)) ?_
    refine AL.nil ?_
    change AW _ _ _ _ _
    refine AW.cd rfl (fun h22 => ?_) (fun h22 => ?_)
    ·skip
     refine AW.seq ?_
     refine AW.region ?_
     refine AL.rm ?_
     refine AL.ra ?_
     refine AL.nil ?_
     change AW _ _ _ _ _
     refine AW.ret ?_
     repeat with_reducible first | refine thenA_ret ?_ | refine inBlockA_ret ?_
     with_reducible first | refine retO_ret ?_ | refine retO_normal ?_
     refine reso1L rfl (ResV.tmp rfl) rfl ?_
     obtain ⟨hdl, hdk⟩ := Bool.or_eq_false_iff.1 hdn
     simp [emptyR, emptyL, emptyD, LogT, h22, hdl, hdk]
    ·skip
     refine AW.skip ?_
     change AW _ _ _ _ _
     refine AW.seq ?_
     refine AW.region ?_
     refine AL.rm ?_
     refine AL.rm ?_
     refine AL.rm ?_
     refine AL.r (rd_nilc_bx rfl rfl rfl) ?_
     refine AL.r (rd_faddr_bx rfl fo_111_4 rfl rfl ⟨_, _, rfl⟩) ?_
     refine AL.op rfl (op_fatstore 2 rfl rfl rfl rfl (Nat.le_of_ble_eq_true rfl) rfl rfl rfl sz_3 ?_)
     refine AL.no ?_
     refine AL.r (rd_nilc_bx rfl rfl rfl) ?_
     refine AL.r (rd_faddr_bx rfl fo_111_5 rfl rfl ⟨_, _, rfl⟩) ?_
     refine AL.op rfl (op_fatstore 3 rfl rfl rfl rfl (Nat.le_of_ble_eq_true rfl) rfl rfl rfl sz_3 ?_)
     refine AL.no ?_
     refine AL.r (rd_nilc_bx rfl rfl rfl) ?_
     refine AL.r (rd_faddr_bx rfl fo_111_6 rfl rfl ⟨_, _, rfl⟩) ?_
     refine AL.op rfl (op_fatstore 4 rfl rfl rfl rfl (Nat.le_of_ble_eq_true rfl) rfl rfl rfl sz_3 ?_)
     refine AL.no ?_
     refine AL.nil ?_
     change AW _ _ _ _ _
     refine AW.seq ?_
     refine AW.region ?_
     refine AL.ra ?_
     refine AL.nil ?_
     change AW _ _ _ _ _
     refine AW.ret ?_
     repeat with_reducible first | refine thenA_ret ?_ | refine inBlockA_ret ?_
     with_reducible first | refine retO_ret ?_ | refine retO_normal ?_
     refine reso1L rfl (ResV.tmp rfl) rfl ?_
     obtain ⟨hdl, hdk⟩ := Bool.or_eq_false_iff.1 hdn
     simp [emptyR, emptyL, emptyD, LogT, h22, hdl, hdk]
   ·skip
    refine ⟨_, rfl, rfl, AOpB.op (ARd.opB (rd_load_bx rfl ag_3 rfl rfl (fat_post 0 rfl rfl)) ?_)⟩
    refine ADB.n ?_
    refine ADB.mv 4 rfl (AOpB.op (ARd.opB (rd_load_bx rfl ag_25 rfl rfl (fat_pre rfl)) ?_))
    refine ADB.n ?_
    refine ADB.mv 9 rfl (calloL (ok_cut hd hk G L.file 0) [1] ?_)
    rintro y os' ⟨rfl, rfl⟩
    refine ADB.noL ?_
    refine ADB.mv 10 rfl (calloL (lheard_c g G t { L with down := false } (cutDi d L.file 0) (cutRi d L.file 0)) [0, 1] ?_)
    rintro y os' ⟨rfl, rfl⟩
    refine ADB.noL ?_
    refine ADB.r 11 rfl (rdP_assign rfl rfl) rfl ?_
    refine ADB.done (by kernel_rfl) ?_
    change AW _ _ _ _ _
    refine AW.seq ?_
    refine AW.region ?_
    refine AL.rm ?_
    refine AL.r (rd_bin rfl rfl rfl (fun _ => rfl)) ?_
    refine AL.nil ?_
    change AW _ _ _ _ _
    refine AW.cd rfl (fun h22 => ?_) (fun h22 => ?_)
    ·skip
     refine AW.seq ?_
     refine AW.region ?_
     refine AL.rm ?_
     refine AL.ra ?_
     refine AL.nil ?_
     change AW _ _ _ _ _
     refine AW.ret ?_
     repeat with_reducible first | refine thenA_ret ?_ | refine inBlockA_ret ?_
     with_reducible first | refine retO_ret ?_ | refine retO_normal ?_
     refine reso1L rfl (ResV.tmp rfl) rfl ?_
     obtain ⟨hdl, hdk⟩ := Bool.or_eq_false_iff.1 hdn
     simp [emptyR, emptyL, emptyD, LogT, h22, hdl, hdk]
    ·skip
     refine AW.skip ?_
     change AW _ _ _ _ _
     refine AW.seq ?_
     refine AW.region ?_
     refine AL.rm ?_
     refine AL.rm ?_
     refine AL.rm ?_
     refine AL.r (rd_nilc_bx rfl rfl rfl) ?_
     refine AL.r (rd_faddr_bx rfl fo_111_4 rfl rfl ⟨_, _, rfl⟩) ?_
     refine AL.op rfl (op_fatstore 2 rfl rfl rfl rfl (Nat.le_of_ble_eq_true rfl) rfl rfl rfl sz_3 ?_)
     refine AL.no ?_
     refine AL.r (rd_nilc_bx rfl rfl rfl) ?_
     refine AL.r (rd_faddr_bx rfl fo_111_5 rfl rfl ⟨_, _, rfl⟩) ?_
     refine AL.op rfl (op_fatstore 3 rfl rfl rfl rfl (Nat.le_of_ble_eq_true rfl) rfl rfl rfl sz_3 ?_)
     refine AL.no ?_
     refine AL.r (rd_nilc_bx rfl rfl rfl) ?_
     refine AL.r (rd_faddr_bx rfl fo_111_6 rfl rfl ⟨_, _, rfl⟩) ?_
     refine AL.op rfl (op_fatstore 4 rfl rfl rfl rfl (Nat.le_of_ble_eq_true rfl) rfl rfl rfl sz_3 ?_)
     refine AL.no ?_
     refine AL.nil ?_
     change AW _ _ _ _ _
     refine AW.seq ?_
     refine AW.region ?_
     refine AL.ra ?_
     refine AL.nil ?_
     change AW _ _ _ _ _
     refine AW.ret ?_
     repeat with_reducible first | refine thenA_ret ?_ | refine inBlockA_ret ?_
     with_reducible first | refine retO_ret ?_ | refine retO_normal ?_
     refine reso1L rfl (ResV.tmp rfl) rfl ?_
     obtain ⟨hdl, hdk⟩ := Bool.or_eq_false_iff.1 hdn
     simp [emptyR, emptyL, emptyD, LogT, h22, hdl, hdk]
end
end Go.Proofs.Ytgjpeldgjpgbcaa
