/- Pools: what a vector lacks, the greatest time, copies, walked over abstract states. No conditions. -/
import Derived.Test.YtfjnkhanndkpfaaPlB
import Derived.Test.YtfjnkhanndkpfaaApS
namespace Go.Proofs.Ytfjnkhanndkpfaa
set_option linter.unusedSimpArgs false
set_option linter.unusedVariables false
set_option maxRecDepth 100000
set_option maxRecDepth 100000
open Go.RowKit

def preP (p : PoolD) : Nat → List OpD
  | 0 => []
  | i + 1 => preP p i ++ p i
abbrev catP (p : PoolD) : List OpD := preP p 6
def accP (p : PoolD) (i j : Nat) : List OpD := preP p i ++ (p i).take j
def lackV (v : VecD) (o : OpD) : Bool := !hasV v o.id
def sinceL (p : PoolD) (v : VecD) (most : Int) : List OpD := ((catP p).filter (lackV v)).take most.toNat
def stepT (c : Int) (o : OpD) : Int := if c < o.time then o.time else c
def clockP (p : PoolD) : Int := (catP p).foldl stepT 0
section
variable {p : PoolD} {i j : Nat}
theorem acc_0 : accP p 0 0 = [] := rfl
theorem acc_end (h : ¬ j < (p i).length) : accP p (i + 1) 0 = accP p i j := by
  show preP p i ++ p i ++ (p (i + 1)).take 0 = preP p i ++ (p i).take j
  rw [List.take_of_length_le (show (p i).length ≤ j by omega), List.take_zero, List.append_nil]
theorem acc_next (h : j < (p i).length) : accP p i (j + 1) = accP p i j ++ [(p i)[j]] := by
  unfold accP
  rw [List.append_assoc, ← List.take_concat_get h]
  simp
theorem pre_mono : ∀ d, preP p i <+: preP p (i + d)
  | 0 => List.prefix_rfl
  | d + 1 => (pre_mono d).trans ⟨p (i + d), rfl⟩
theorem acc_pre (hi : i < 6) : accP p i j <+: catP p := by
  have h1 : accP p i j <+: preP p (i + 1) := by
    unfold accP
    rw [preP]
    exact (List.prefix_append_right_inj _).2 (List.take_prefix _ _)
  have h2 := pre_mono (p := p) (i := i + 1) (6 - (i + 1))
  rw [show i + 1 + (6 - (i + 1)) = 6 by omega] at h2
  exact h1.trans h2
theorem since_stop {v : VecD} {most : Int} (hi : i < 6) (h1 : ((accP p i j).filter (lackV v)).length ≤ most.toNat) (h2 : most ≤ (((accP p i j).filter (lackV v)).length : Int)) : sinceL p v most = (accP p i j).filter (lackV v) := by
  obtain ⟨r, hr⟩ := acc_pre (p := p) (j := j) hi
  unfold sinceL
  rw [← hr, List.filter_append, List.take_append_of_le_length (by omega), List.take_of_length_le (by omega)]
theorem since_end {v : VecD} {most : Int} (h : ¬ j < (p 5).length) (h1 : ((accP p 5 j).filter (lackV v)).length ≤ most.toNat) : sinceL p v most = (accP p 5 j).filter (lackV v) := by
  have e : catP p = accP p 5 j := by
    rw [← acc_end h]
    unfold accP
    simp
  unfold sinceL
  rw [e, List.take_of_length_le (by omega)]
theorem clock_end (h : ¬ j < (p 5).length) : clockP p = (accP p 5 j).foldl stepT 0 := by
  have e : catP p = accP p 5 j := by
    rw [← acc_end h]
    unfold accP
    simp
  unfold clockP
  rw [e]
theorem lack_t {v : VecD} {h : j < (p i).length} (hh : hasV v (p i)[j].id = true) : (accP p i (j + 1)).filter (lackV v) = (accP p i j).filter (lackV v) := by
  rw [acc_next h, List.filter_append]
  simp [lackV, hh]
theorem lack_f {v : VecD} {h : j < (p i).length} (hh : hasV v (p i)[j].id = false) : (accP p i (j + 1)).filter (lackV v) = (accP p i j).filter (lackV v) ++ [(p i)[j]] := by
  rw [acc_next h, List.filter_append]
  simp [lackV, hh]
theorem clock_next {h : j < (p i).length} : (accP p i (j + 1)).foldl stepT 0 = stepT ((accP p i j).foldl stepT 0) (p i)[j] := by
  rw [acc_next h, List.foldl_append]; rfl
end
theorem acc_len {p : PoolD} (hok : OkP p) {i j : Nat} (v : VecD) (hi : i < 6) : ((accP p i j).filter (lackV v)).length ≤ 400 := by
  have h1 := (acc_pre (p := p) (j := j) hi).length_le
  have h2 := List.length_filter_le (lackV v) (accP p i j)
  have h3 : (catP p).length = (p 0).length + (p 1).length + (p 2).length + (p 3).length + (p 4).length + (p 5).length := (by simp [preP]; omega)
  have := hok.tot
  omega
theorem lfS {A B : List OpD} (e : A = B) : AV.sl (B.map OpD.cs) = .sl (A.map OpD.cs) := by rw [e]
section
variable (p : PoolD) (hok : OkP p) (g g1 g2 g3 g4 g5 g6 : Nat)
include hok
set_option maxHeartbeats 2000000 in
theorem psince_c (v : VecD) (most : Int) : ACo Try.prog 36 [.bx 0 g 0, vecA v, AI most] (poolT g g1 g2 g3 g4 g5 g6 p) (fun y os' => y = .sl ((sinceL p v most).map OpD.cs) ∧ os' = poolT g g1 g2 g3 g4 g5 g6 p) := by
  have htot := hok.tot
  refine ACo.of' (st0 := [⟨g, .box 114 [.ow 1 g1, .ow 2 g2, .ow 3 g3, .ow 4 g4, .ow 5 g5, .ow 6 g6]⟩, ⟨g1, owM true 47 15 ((p 0).map OpD.cs)⟩, ⟨g2, owM true 47 15 ((p 1).map OpD.cs)⟩, ⟨g3, owM true 47 15 ((p 2).map OpD.cs)⟩, ⟨g4, owM true 47 15 ((p 3).map OpD.cs)⟩, ⟨g5, owM true 47 15 ((p 4).map OpD.cs)⟩, ⟨g6, owM true 47 15 ((p 5).map OpD.cs)⟩, TK.mk 0 .off, TK.mk 0 .off, TK.mk 0 .off, TK.mk 0 .off, TK.mk 0 .off]) 42 5 Try.func36 rfl 7 ?_
  refine AW.seq ?_
  refine AW.region ?_
  refine AL.op rfl (AOpB.op (op_box 7 rfl rfl rfl rfl rfl ?_))
  refine AL.no ?_
  refine AL.ra ?_
  refine AL.nil ?_
  change AW _ _ _ _ _
  refine AW.seq ?_
  refine AW.seq ?_
  refine AW.region ?_
  refine AL.rm ?_
  refine AL.r (rd_peq_bx rfl pt_41 rfl rfl rfl) ?_
  refine AL.nil ?_
  change AW _ _ _ _ _
  refine AW.cond_f rfl ?_
  refine AW.skip ?_
  change AW _ _ _ _ _
  refine AW.seq ?_
  refine AW.region ?_
  refine AL.ra ?_
  refine AL.nil ?_
  change AW _ _ _ _ _
  refine AW.seq ?_
  refine AW.seq ?_
  refine AW.region ?_
  refine AL.nil_own 7 11 47 15 rfl rfl ?_
  refine AL.n ?_
  refine AL.rm ?_
  refine AL.r (rd_nilc_bx rfl rfl rfl) ?_
  refine AL.r (rd_faddr_bx rfl fo_114_0 rfl rfl ⟨_, _, rfl⟩) ?_
  refine AL.r (rd_loadN_bx rfl ag_112 rfl rfl (Nat.le_of_ble_eq_true rfl) rfl) ?_
  refine AL.rm ?_
  refine AL.nil ?_
  change AW _ _ _ _ _
  refine AW.block ?_
  refine AW.unroll 7 ?_
  change AW _ _ _ _ _
  refine AW.seq ?_
  refine AW.region ?_
  refine AL.r (rd_bin rfl rfl rfl (fun _ => rfl)) ?_
  refine AL.nil ?_
  change AW _ _ _ _ _
  refine AW.seq ?_
  refine AW.cond_t rfl ?_
  refine AW.skip ?_
  change AW _ _ _ _ _
  refine AW.seq ?_
  refine AW.block ?_
  refine AW.seq ?_
  refine AW.region ?_
  refine AL.r (rd_index_ag (i := 0) rfl ar_112 ag_50 rfl rfl (by first | rfl | omega) (by decide) rfl) ?_
  refine AL.ra ?_
  refine AL.nil ?_
  change AW _ _ _ _ _
  refine AW.seq ?_
  refine AW.region ?_
  refine AL.rm ?_
  refine AL.r (rd_len_owM rfl el_50 rfl rfl) ?_
  refine AL.rm ?_
  refine AL.nil ?_
  change AW _ _ _ _ _
  refine AW.block ?_
  refine AW.loopM (ι := Nat × Nat) [6, 11, 24, 25, 26, 27, 28, 29, 30, 31, 32, 33, 34, 35, 36, 37, 38, 39, 40, 41, 42] (fun ⟨j, h⟩ => [(23, AI (j : Int)), (7, .ow 11 h)]) [8, 9, 10] (fun ⟨j, h⟩ => [(11, ⟨h, owM true 47 15 (((accP p 0 j).filter (lackV v)).map OpD.cs)⟩)]) (fun ⟨j, h⟩ => j ≤ (p 0).length ∧ ((accP p 0 j).filter (lackV v)).length ≤ most.toNat) (fun ⟨j, h⟩ => (p 0).length - j) ⟨0, 1⟩ (⟨Nat.zero_le _, by first | exact Nat.zero_le _ | (rw [acc_end (j := j) (by omega)]; exact hJ.2)⟩) (by simp only [anys, upds, offs, List.set_cons_zero, List.set_cons_succ]; repeat (first | exact Wk.nil | refine Wk.same ?_ | refine Wk.any ?_)) (by simp only [anys, upds, offs, List.set_cons_zero, List.set_cons_succ]; repeat (first | exact Sk.nil _ | refine Sk.same _ ?_ | refine Sk.scr _ (by decide) ?_ | refine Sk.eq _ (by first | rfl | (rw [acc_end (j := j) (by omega)])) ?_)) ?_
  rintro ⟨j, h⟩ gs hJ
  refine AW.norm (by simp only [anys, upds, offs, List.set_cons_zero, List.set_cons_succ]; rfl) (by (try simp only [anys, upds, offs, List.set_cons_zero, List.set_cons_succ]); (try rfl)) ?_
  refine AW.seq ?_
  refine AW.region ?_
  refine AL.r (rd_bin rfl rfl rfl (fun _ => rfl)) ?_
  refine AL.nil ?_
  change AW _ _ _ _ _
  refine AW.seq ?_
  refine AW.cd rfl (fun h24 => ?_) (fun h24 => ?_)
  ·skip
   refine AW.skip ?_
   change AW _ _ _ _ _
   refine AW.seq ?_
   refine AW.block ?_
   refine AW.seq ?_
   refine AW.region ?_
   refine AL.r (rd_iaddr_owM rfl el_50 rfl rfl rfl rfl (by simp only [List.length_map]; omega)) ?_
   refine AL.r (rd_loadN_boM _ rfl ag_47 rfl rfl rfl rfl (get_mapA (by omega))) ?_
   dsimp only [OpD.cs]
   refine AL.op rfl (AOpB.op (op_alloc 8 rfl ze_47 rfl ?_))
   refine AL.no ?_
   refine AL.op rfl (op_store_ rfl rfl rfl rfl rfl sz_47 ?_)
   refine AL.no ?_
   refine AL.nil ?_
   change AW _ _ _ _ _
   refine AW.seq ?_
   refine AW.seq ?_
   refine AW.region ?_
   refine AL.rm ?_
   refine AL.r (rd_len_owM rfl el_50 rfl rfl) ?_
   refine AL.rm ?_
   refine AL.r (rd_bin rfl rfl rfl (fun _ => rfl)) ?_
   refine AL.nil ?_
   change AW _ _ _ _ _
   refine AW.cd rfl (fun h30 => ?_) (fun h30 => ?_)
   ·skip
    refine AW.seq ?_
    refine AW.region ?_
    refine AL.rm ?_
    refine AL.ra ?_
    refine AL.nil ?_
    change AW _ _ _ _ _
    refine AW.ret ?_
    repeat with_reducible first | refine thenA_ret ?_ | refine inBlockA_ret ?_
    with_reducible first | refine retO_ret ?_ | refine retO_normal ?_
    refine reso1P rfl (ResV.tmp rfl) (by first | exact resO_owM (by decide) rfl | exact resO_own (by decide) rfl | exact resO_set (by decide) rfl | exact resO_setM (by decide) rfl) ?_
    exact ⟨lfS (since_stop (by decide) hJ.2 (by simp only [List.length_map] at *; omega)), rfl⟩
   ·skip
    refine AW.skip ?_
    change AW _ _ _ _ _
    refine AW.seq ?_
    refine AW.region ?_
    refine AL.r (rd_loadN_bx rfl ag_58 rfl rfl (Nat.le_of_ble_eq_true rfl) rfl) ?_
    refine AL.r (rd_faddr_bx rfl fo_47_0 rfl rfl ⟨_, _, rfl⟩) ?_
    refine AL.r (rd_loadN_bx rfl ag_44 rfl rfl (Nat.le_of_ble_eq_true rfl) rfl) ?_
    refine AL.op rfl (AOpB.op (op_call (dhas_c v ((p 0)[j]'(by omega)).id) rfl (by kernel_rfl) rfl (none) ?_))
    rintro r rfl
    refine AL.no ?_
    refine AL.r (rd_un rfl rfl (fun _ => rfl)) ?_
    refine AL.nil ?_
    change AW _ _ _ _ _
    refine AW.cd rfl (fun h36 => ?_) (fun h36 => ?_)
    ·skip
     refine AW.region ?_
     refine AL.rm ?_
     refine AL.r (rd_loadN_bx rfl ag_47 rfl rfl (Nat.le_of_ble_eq_true rfl) rfl) ?_
     refine AL.op rfl (AOpB.op (op_call (oown_c ((p 0)[j]'(by omega)) (hok.drops (i := 0) (by decide) (List.getElem_mem _))) rfl (by kernel_rfl) rfl (none) ?_))
     rintro r rfl
     refine AL.no ?_
     refine AL.op rfl (AOpB.op (bs_set rfl ap_50 ze_47 rfl rfl ?_))
     refine AL.no ?_
     refine AL.op rfl (op_appendM rfl ap_50 rfl rfl (src_s rfl) (by have := acc_len hok (i := 0) (j := j) v (by decide); simp; omega) (by have := acc_len hok (i := 0) (j := j) v (by decide); simp; omega) ?_)
     refine AL.no ?_
     refine AL.ra ?_
     refine AL.nil ?_
     change AW _ _ _ _ _
     refine AW.region ?_
     refine AL.r (rd_arith_add rfl rfl rfl (by first | exact IntWalk.i64_in _ (by omega) | rfl)) ?_
     refine AL.rm ?_
     refine AL.nil ?_
     first
       | refine ⟨⟨j + 1, h + 1⟩, ?_, ?_, ?_, ?_⟩
         ·exact ⟨by omega, by rw [lack_f (by assumption), List.length_append]; simp only [List.length_map] at *; simp; omega⟩
         ·first | omega | (simp only []; omega)
         ·simp only [anys, upds, offs, List.set_cons_zero, List.set_cons_succ]; repeat (first | exact Wk.nil | refine Wk.same ?_ | refine Wk.any ?_)
         ·simp only [anys, upds, offs, List.set_cons_zero, List.set_cons_succ]; repeat (first | exact Sk.nil _ | refine Sk.same _ ?_ | refine Sk.scr _ (by decide) ?_ | refine Sk.eq _ (by first | (rw [lack_f (by assumption)]; simp [OpD.cs]; done) | (rw [lack_t (by assumption)])) ?_)
       | refine ⟨⟨j + 1, h⟩, ?_, ?_, ?_, ?_⟩
         ·exact ⟨by omega, by rw [lack_t (by assumption)]; exact hJ.2⟩
         ·first | omega | (simp only []; omega)
         ·simp only [anys, upds, offs, List.set_cons_zero, List.set_cons_succ]; repeat (first | exact Wk.nil | refine Wk.same ?_ | refine Wk.any ?_)
         ·simp only [anys, upds, offs, List.set_cons_zero, List.set_cons_succ]; repeat (first | exact Sk.nil _ | refine Sk.same _ ?_ | refine Sk.scr _ (by decide) ?_ | refine Sk.eq _ (by first | (rw [lack_f (by assumption)]; simp [OpD.cs]; done) | (rw [lack_t (by assumption)])) ?_)
    ·skip
     refine AW.skip ?_
     change AW _ _ _ _ _
     refine AW.region ?_
     refine AL.r (rd_arith_add rfl rfl rfl (by first | exact IntWalk.i64_in _ (by omega) | rfl)) ?_
     refine AL.rm ?_
     refine AL.nil ?_
     refine ⟨⟨j + 1, h⟩, ?_, by first | omega | (simp only []; omega), ?_, ?_⟩
     ·exact ⟨by omega, by rw [lack_t (by assumption)]; exact hJ.2⟩
     ·simp only [anys, upds, offs, List.set_cons_zero, List.set_cons_succ]; repeat (first | exact Wk.nil | refine Wk.same ?_ | refine Wk.any ?_)
     ·simp only [anys, upds, offs, List.set_cons_zero, List.set_cons_succ]; repeat (first | exact Sk.nil _ | refine Sk.same _ ?_ | refine Sk.scr _ (by decide) ?_ | refine Sk.eq _ (by first | (rw [lack_f (by assumption)]; simp [OpD.cs]; done) | (rw [lack_t (by assumption)])) ?_)
  ·skip
   refine AW.exit ?_
   change AW _ _ _ _ _
   refine AW.region ?_
   refine AL.r (rd_arith_add rfl rfl rfl (rfl : _ = (1 : Int))) ?_
   refine AL.rm ?_
   refine AL.nil ?_
   change AW _ _ _ _ _
   refine AW.seq ?_
   refine AW.region ?_
   refine AL.r (rd_bin rfl rfl rfl (fun _ => rfl)) ?_
   refine AL.nil ?_
   change AW _ _ _ _ _
   refine AW.seq ?_
   refine AW.cond_t rfl ?_
   refine AW.skip ?_
   change AW _ _ _ _ _
   refine AW.seq ?_
   refine AW.block ?_
   refine AW.seq ?_
   refine AW.region ?_
   refine AL.r (rd_index_ag (i := 1) rfl ar_112 ag_50 rfl rfl (by first | rfl | omega) (by decide) rfl) ?_
   refine AL.ra ?_
   refine AL.nil ?_
   change AW _ _ _ _ _
   refine AW.seq ?_
   refine AW.region ?_
   refine AL.rm ?_
   refine AL.r (rd_len_owM rfl el_50 rfl rfl) ?_
   refine AL.rm ?_
   refine AL.nil ?_
   change AW _ _ _ _ _
   refine AW.block ?_
   refine AW.loopM (ι := Nat × Nat) [6, 11, 24, 25, 26, 27, 28, 29, 30, 31, 32, 33, 34, 35, 36, 37, 38, 39, 40, 41, 42] (fun ⟨j, h⟩ => [(23, AI (j : Int)), (7, .ow 11 h)]) [8, 9, 10] (fun ⟨j, h⟩ => [(11, ⟨h, owM true 47 15 (((accP p 1 j).filter (lackV v)).map OpD.cs)⟩)]) (fun ⟨j, h⟩ => j ≤ (p 1).length ∧ ((accP p 1 j).filter (lackV v)).length ≤ most.toNat) (fun ⟨j, h⟩ => (p 1).length - j) ⟨0, h⟩ (⟨Nat.zero_le _, by first | exact Nat.zero_le _ | (rw [acc_end (j := j) (by omega)]; exact hJ.2)⟩) (by simp only [anys, upds, offs, List.set_cons_zero, List.set_cons_succ]; repeat (first | exact Wk.nil | refine Wk.same ?_ | refine Wk.any ?_)) (by simp only [anys, upds, offs, List.set_cons_zero, List.set_cons_succ]; repeat (first | exact Sk.nil _ | refine Sk.same _ ?_ | refine Sk.scr _ (by decide) ?_ | refine Sk.eq _ (by first | rfl | (rw [acc_end (j := j) (by omega)])) ?_)) ?_
   rintro ⟨j, h⟩ gs hJ
   refine AW.norm (by simp only [anys, upds, offs, List.set_cons_zero, List.set_cons_succ]; rfl) (by (try simp only [anys, upds, offs, List.set_cons_zero, List.set_cons_succ]); (try rfl)) ?_
   refine AW.seq ?_
   refine AW.region ?_
   refine AL.r (rd_bin rfl rfl rfl (fun _ => rfl)) ?_
   refine AL.nil ?_
   change AW _ _ _ _ _
   refine AW.seq ?_
   refine AW.cd rfl (fun h24 => ?_) (fun h24 => ?_)
   ·skip
    refine AW.skip ?_
    change AW _ _ _ _ _
    refine AW.seq ?_
    refine AW.block ?_
    refine AW.seq ?_
    refine AW.region ?_
    refine AL.r (rd_iaddr_owM rfl el_50 rfl rfl rfl rfl (by simp only [List.length_map]; omega)) ?_
    refine AL.r (rd_loadN_boM _ rfl ag_47 rfl rfl rfl rfl (get_mapA (by omega))) ?_
    dsimp only [OpD.cs]
    refine AL.op rfl (AOpB.op (op_alloc 8 rfl ze_47 rfl ?_))
    refine AL.no ?_
    refine AL.op rfl (op_store_ rfl rfl rfl rfl rfl sz_47 ?_)
    refine AL.no ?_
    refine AL.nil ?_
    change AW _ _ _ _ _
    refine AW.seq ?_
    refine AW.seq ?_
    refine AW.region ?_
    refine AL.rm ?_
    refine AL.r (rd_len_owM rfl el_50 rfl rfl) ?_
    refine AL.rm ?_
    refine AL.r (rd_bin rfl rfl rfl (fun _ => rfl)) ?_
    refine AL.nil ?_
    change AW _ _ _ _ _
    refine AW.cd rfl (fun h30 => ?_) (fun h30 => ?_)
    ·skip
     refine AW.seq ?_
     refine AW.region ?_
     refine AL.rm ?_
     refine AL.ra ?_
     refine AL.nil ?_
     change AW _ _ _ _ _
     refine AW.ret ?_
     repeat with_reducible first | refine thenA_ret ?_ | refine inBlockA_ret ?_
     with_reducible first | refine retO_ret ?_ | refine retO_normal ?_
     refine reso1P rfl (ResV.tmp rfl) (by first | exact resO_owM (by decide) rfl | exact resO_own (by decide) rfl | exact resO_set (by decide) rfl | exact resO_setM (by decide) rfl) ?_
     exact ⟨lfS (since_stop (by decide) hJ.2 (by simp only [List.length_map] at *; omega)), rfl⟩
    ·skip
     refine AW.skip ?_
     change AW _ _ _ _ _
     refine AW.seq ?_
     refine AW.region ?_
     refine AL.r (rd_loadN_bx rfl ag_58 rfl rfl (Nat.le_of_ble_eq_true rfl) rfl) ?_
     refine AL.r (rd_faddr_bx rfl fo_47_0 rfl rfl ⟨_, _, rfl⟩) ?_
     refine AL.r (rd_loadN_bx rfl ag_44 rfl rfl (Nat.le_of_ble_eq_true rfl) rfl) ?_
     refine AL.op rfl (AOpB.op (op_call (dhas_c v ((p 1)[j]'(by omega)).id) rfl (by kernel_rfl) rfl (none) ?_))
     rintro r rfl
     refine AL.no ?_
     refine AL.r (rd_un rfl rfl (fun _ => rfl)) ?_
     refine AL.nil ?_
     change AW _ _ _ _ _
     refine AW.cd rfl (fun h36 => ?_) (fun h36 => ?_)
     ·skip
      refine AW.region ?_
      refine AL.rm ?_
      refine AL.r (rd_loadN_bx rfl ag_47 rfl rfl (Nat.le_of_ble_eq_true rfl) rfl) ?_
      refine AL.op rfl (AOpB.op (op_call (oown_c ((p 1)[j]'(by omega)) (hok.drops (i := 1) (by decide) (List.getElem_mem _))) rfl (by kernel_rfl) rfl (none) ?_))
      rintro r rfl
      refine AL.no ?_
      refine AL.op rfl (AOpB.op (bs_set rfl ap_50 ze_47 rfl rfl ?_))
      refine AL.no ?_
      refine AL.op rfl (op_appendM rfl ap_50 rfl rfl (src_s rfl) (by have := acc_len hok (i := 1) (j := j) v (by decide); simp; omega) (by have := acc_len hok (i := 1) (j := j) v (by decide); simp; omega) ?_)
      refine AL.no ?_
      refine AL.ra ?_
      refine AL.nil ?_
      change AW _ _ _ _ _
      refine AW.region ?_
      refine AL.r (rd_arith_add rfl rfl rfl (by first | exact IntWalk.i64_in _ (by omega) | rfl)) ?_
      refine AL.rm ?_
      refine AL.nil ?_
      first
        | refine ⟨⟨j + 1, h + 1⟩, ?_, ?_, ?_, ?_⟩
          ·exact ⟨by omega, by rw [lack_f (by assumption), List.length_append]; simp only [List.length_map] at *; simp; omega⟩
          ·first | omega | (simp only []; omega)
          ·simp only [anys, upds, offs, List.set_cons_zero, List.set_cons_succ]; repeat (first | exact Wk.nil | refine Wk.same ?_ | refine Wk.any ?_)
          ·simp only [anys, upds, offs, List.set_cons_zero, List.set_cons_succ]; repeat (first | exact Sk.nil _ | refine Sk.same _ ?_ | refine Sk.scr _ (by decide) ?_ | refine Sk.eq _ (by first | (rw [lack_f (by assumption)]; simp [OpD.cs]; done) | (rw [lack_t (by assumption)])) ?_)
        | refine ⟨⟨j + 1, h⟩, ?_, ?_, ?_, ?_⟩
          ·exact ⟨by omega, by rw [lack_t (by assumption)]; exact hJ.2⟩
          ·first | omega | (simp only []; omega)
          ·simp only [anys, upds, offs, List.set_cons_zero, List.set_cons_succ]; repeat (first | exact Wk.nil | refine Wk.same ?_ | refine Wk.any ?_)
          ·simp only [anys, upds, offs, List.set_cons_zero, List.set_cons_succ]; repeat (first | exact Sk.nil _ | refine Sk.same _ ?_ | refine Sk.scr _ (by decide) ?_ | refine Sk.eq _ (by first | (rw [lack_f (by assumption)]; simp [OpD.cs]; done) | (rw [lack_t (by assumption)])) ?_)
     ·skip
      refine AW.skip ?_
      change AW _ _ _ _ _
      refine AW.region ?_
      refine AL.r (rd_arith_add rfl rfl rfl (by first | exact IntWalk.i64_in _ (by omega) | rfl)) ?_
      refine AL.rm ?_
      refine AL.nil ?_
      refine ⟨⟨j + 1, h⟩, ?_, by first | omega | (simp only []; omega), ?_, ?_⟩
      ·exact ⟨by omega, by rw [lack_t (by assumption)]; exact hJ.2⟩
      ·simp only [anys, upds, offs, List.set_cons_zero, List.set_cons_succ]; repeat (first | exact Wk.nil | refine Wk.same ?_ | refine Wk.any ?_)
      ·simp only [anys, upds, offs, List.set_cons_zero, List.set_cons_succ]; repeat (first | exact Sk.nil _ | refine Sk.same _ ?_ | refine Sk.scr _ (by decide) ?_ | refine Sk.eq _ (by first | (rw [lack_f (by assumption)]; simp [OpD.cs]; done) | (rw [lack_t (by assumption)])) ?_)
   ·skip
    refine AW.exit ?_
    change AW _ _ _ _ _
    refine AW.region ?_
    refine AL.r (rd_arith_add rfl rfl rfl (rfl : _ = (2 : Int))) ?_
    refine AL.rm ?_
    refine AL.nil ?_
    change AW _ _ _ _ _
    refine AW.seq ?_
    refine AW.region ?_
    refine AL.r (rd_bin rfl rfl rfl (fun _ => rfl)) ?_
    refine AL.nil ?_
    change AW _ _ _ _ _
    refine AW.seq ?_
    refine AW.cond_t rfl ?_
    refine AW.skip ?_
    change AW _ _ _ _ _
    refine AW.seq ?_
    refine AW.block ?_
    refine AW.seq ?_
    refine AW.region ?_
    refine AL.r (rd_index_ag (i := 2) rfl ar_112 ag_50 rfl rfl (by first | rfl | omega) (by decide) rfl) ?_
    refine AL.ra ?_
    refine AL.nil ?_
    change AW _ _ _ _ _
    refine AW.seq ?_
    refine AW.region ?_
    refine AL.rm ?_
    refine AL.r (rd_len_owM rfl el_50 rfl rfl) ?_
    refine AL.rm ?_
    refine AL.nil ?_
    change AW _ _ _ _ _
    refine AW.block ?_
    refine AW.loopM (ι := Nat × Nat) [6, 11, 24, 25, 26, 27, 28, 29, 30, 31, 32, 33, 34, 35, 36, 37, 38, 39, 40, 41, 42] (fun ⟨j, h⟩ => [(23, AI (j : Int)), (7, .ow 11 h)]) [8, 9, 10] (fun ⟨j, h⟩ => [(11, ⟨h, owM true 47 15 (((accP p 2 j).filter (lackV v)).map OpD.cs)⟩)]) (fun ⟨j, h⟩ => j ≤ (p 2).length ∧ ((accP p 2 j).filter (lackV v)).length ≤ most.toNat) (fun ⟨j, h⟩ => (p 2).length - j) ⟨0, h⟩ (⟨Nat.zero_le _, by first | exact Nat.zero_le _ | (rw [acc_end (j := j) (by omega)]; exact hJ.2)⟩) (by simp only [anys, upds, offs, List.set_cons_zero, List.set_cons_succ]; repeat (first | exact Wk.nil | refine Wk.same ?_ | refine Wk.any ?_)) (by simp only [anys, upds, offs, List.set_cons_zero, List.set_cons_succ]; repeat (first | exact Sk.nil _ | refine Sk.same _ ?_ | refine Sk.scr _ (by decide) ?_ | refine Sk.eq _ (by first | rfl | (rw [acc_end (j := j) (by omega)])) ?_)) ?_
    rintro ⟨j, h⟩ gs hJ
    refine AW.norm (by simp only [anys, upds, offs, List.set_cons_zero, List.set_cons_succ]; rfl) (by (try simp only [anys, upds, offs, List.set_cons_zero, List.set_cons_succ]); (try rfl)) ?_
    refine AW.seq ?_
    refine AW.region ?_
    refine AL.r (rd_bin rfl rfl rfl (fun _ => rfl)) ?_
    refine AL.nil ?_
    change AW _ _ _ _ _
    refine AW.seq ?_
    refine AW.cd rfl (fun h24 => ?_) (fun h24 => ?_)
    ·skip
     refine AW.skip ?_
     change AW _ _ _ _ _
     refine AW.seq ?_
     refine AW.block ?_
     refine AW.seq ?_
     refine AW.region ?_
     refine AL.r (rd_iaddr_owM rfl el_50 rfl rfl rfl rfl (by simp only [List.length_map]; omega)) ?_
     refine AL.r (rd_loadN_boM _ rfl ag_47 rfl rfl rfl rfl (get_mapA (by omega))) ?_
     dsimp only [OpD.cs]
     refine AL.op rfl (AOpB.op (op_alloc 8 rfl ze_47 rfl ?_))
     refine AL.no ?_
     refine AL.op rfl (op_store_ rfl rfl rfl rfl rfl sz_47 ?_)
     refine AL.no ?_
     refine AL.nil ?_
     change AW _ _ _ _ _
     refine AW.seq ?_
     refine AW.seq ?_
     refine AW.region ?_
     refine AL.rm ?_
     refine AL.r (rd_len_owM rfl el_50 rfl rfl) ?_
     refine AL.rm ?_
     refine AL.r (rd_bin rfl rfl rfl (fun _ => rfl)) ?_
     refine AL.nil ?_
     change AW _ _ _ _ _
     refine AW.cd rfl (fun h30 => ?_) (fun h30 => ?_)
     ·skip
      refine AW.seq ?_
      refine AW.region ?_
      refine AL.rm ?_
      refine AL.ra ?_
      refine AL.nil ?_
      change AW _ _ _ _ _
      refine AW.ret ?_
      repeat with_reducible first | refine thenA_ret ?_ | refine inBlockA_ret ?_
      with_reducible first | refine retO_ret ?_ | refine retO_normal ?_
      refine reso1P rfl (ResV.tmp rfl) (by first | exact resO_owM (by decide) rfl | exact resO_own (by decide) rfl | exact resO_set (by decide) rfl | exact resO_setM (by decide) rfl) ?_
      exact ⟨lfS (since_stop (by decide) hJ.2 (by simp only [List.length_map] at *; omega)), rfl⟩
     ·skip
      refine AW.skip ?_
      change AW _ _ _ _ _
      refine AW.seq ?_
      refine AW.region ?_
      refine AL.r (rd_loadN_bx rfl ag_58 rfl rfl (Nat.le_of_ble_eq_true rfl) rfl) ?_
      refine AL.r (rd_faddr_bx rfl fo_47_0 rfl rfl ⟨_, _, rfl⟩) ?_
      refine AL.r (rd_loadN_bx rfl ag_44 rfl rfl (Nat.le_of_ble_eq_true rfl) rfl) ?_
      refine AL.op rfl (AOpB.op (op_call (dhas_c v ((p 2)[j]'(by omega)).id) rfl (by kernel_rfl) rfl (none) ?_))
      rintro r rfl
      refine AL.no ?_
      refine AL.r (rd_un rfl rfl (fun _ => rfl)) ?_
      refine AL.nil ?_
      change AW _ _ _ _ _
      refine AW.cd rfl (fun h36 => ?_) (fun h36 => ?_)
      ·skip
       refine AW.region ?_
       refine AL.rm ?_
       refine AL.r (rd_loadN_bx rfl ag_47 rfl rfl (Nat.le_of_ble_eq_true rfl) rfl) ?_
       refine AL.op rfl (AOpB.op (op_call (oown_c ((p 2)[j]'(by omega)) (hok.drops (i := 2) (by decide) (List.getElem_mem _))) rfl (by kernel_rfl) rfl (none) ?_))
       rintro r rfl
       refine AL.no ?_
       refine AL.op rfl (AOpB.op (bs_set rfl ap_50 ze_47 rfl rfl ?_))
       refine AL.no ?_
       refine AL.op rfl (op_appendM rfl ap_50 rfl rfl (src_s rfl) (by have := acc_len hok (i := 2) (j := j) v (by decide); simp; omega) (by have := acc_len hok (i := 2) (j := j) v (by decide); simp; omega) ?_)
       refine AL.no ?_
       refine AL.ra ?_
       refine AL.nil ?_
       change AW _ _ _ _ _
       refine AW.region ?_
       refine AL.r (rd_arith_add rfl rfl rfl (by first | exact IntWalk.i64_in _ (by omega) | rfl)) ?_
       refine AL.rm ?_
       refine AL.nil ?_
       first
         | refine ⟨⟨j + 1, h + 1⟩, ?_, ?_, ?_, ?_⟩
           ·exact ⟨by omega, by rw [lack_f (by assumption), List.length_append]; simp only [List.length_map] at *; simp; omega⟩
           ·first | omega | (simp only []; omega)
           ·simp only [anys, upds, offs, List.set_cons_zero, List.set_cons_succ]; repeat (first | exact Wk.nil | refine Wk.same ?_ | refine Wk.any ?_)
           ·simp only [anys, upds, offs, List.set_cons_zero, List.set_cons_succ]; repeat (first | exact Sk.nil _ | refine Sk.same _ ?_ | refine Sk.scr _ (by decide) ?_ | refine Sk.eq _ (by first | (rw [lack_f (by assumption)]; simp [OpD.cs]; done) | (rw [lack_t (by assumption)])) ?_)
         | refine ⟨⟨j + 1, h⟩, ?_, ?_, ?_, ?_⟩
           ·exact ⟨by omega, by rw [lack_t (by assumption)]; exact hJ.2⟩
           ·first | omega | (simp only []; omega)
           ·simp only [anys, upds, offs, List.set_cons_zero, List.set_cons_succ]; repeat (first | exact Wk.nil | refine Wk.same ?_ | refine Wk.any ?_)
           ·simp only [anys, upds, offs, List.set_cons_zero, List.set_cons_succ]; repeat (first | exact Sk.nil _ | refine Sk.same _ ?_ | refine Sk.scr _ (by decide) ?_ | refine Sk.eq _ (by first | (rw [lack_f (by assumption)]; simp [OpD.cs]; done) | (rw [lack_t (by assumption)])) ?_)
      ·skip
       refine AW.skip ?_
       change AW _ _ _ _ _
       refine AW.region ?_
       refine AL.r (rd_arith_add rfl rfl rfl (by first | exact IntWalk.i64_in _ (by omega) | rfl)) ?_
       refine AL.rm ?_
       refine AL.nil ?_
       refine ⟨⟨j + 1, h⟩, ?_, by first | omega | (simp only []; omega), ?_, ?_⟩
       ·exact ⟨by omega, by rw [lack_t (by assumption)]; exact hJ.2⟩
       ·simp only [anys, upds, offs, List.set_cons_zero, List.set_cons_succ]; repeat (first | exact Wk.nil | refine Wk.same ?_ | refine Wk.any ?_)
       ·simp only [anys, upds, offs, List.set_cons_zero, List.set_cons_succ]; repeat (first | exact Sk.nil _ | refine Sk.same _ ?_ | refine Sk.scr _ (by decide) ?_ | refine Sk.eq _ (by first | (rw [lack_f (by assumption)]; simp [OpD.cs]; done) | (rw [lack_t (by assumption)])) ?_)
    ·skip
     refine AW.exit ?_
     change AW _ _ _ _ _
     refine AW.region ?_
     refine AL.r (rd_arith_add rfl rfl rfl (rfl : _ = (3 : Int))) ?_
     refine AL.rm ?_
     refine AL.nil ?_
     change AW _ _ _ _ _
     refine AW.seq ?_
     refine AW.region ?_
     refine AL.r (rd_bin rfl rfl rfl (fun _ => rfl)) ?_
     refine AL.nil ?_
     change AW _ _ _ _ _
     refine AW.seq ?_
     refine AW.cond_t rfl ?_
     refine AW.skip ?_
     change AW _ _ _ _ _
     refine AW.seq ?_
     refine AW.block ?_
     refine AW.seq ?_
     refine AW.region ?_
     refine AL.r (rd_index_ag (i := 3) rfl ar_112 ag_50 rfl rfl (by first | rfl | omega) (by decide) rfl) ?_
     refine AL.ra ?_
     refine AL.nil ?_
     change AW _ _ _ _ _
     refine AW.seq ?_
     refine AW.region ?_
     refine AL.rm ?_
     refine AL.r (rd_len_owM rfl el_50 rfl rfl) ?_
     refine AL.rm ?_
     refine AL.nil ?_
     change AW _ _ _ _ _
     refine AW.block ?_
     refine AW.loopM (ι := Nat × Nat) [6, 11, 24, 25, 26, 27, 28, 29, 30, 31, 32, 33, 34, 35, 36, 37, 38, 39, 40, 41, 42] (fun ⟨j, h⟩ => [(23, AI (j : Int)), (7, .ow 11 h)]) [8, 9, 10] (fun ⟨j, h⟩ => [(11, ⟨h, owM true 47 15 (((accP p 3 j).filter (lackV v)).map OpD.cs)⟩)]) (fun ⟨j, h⟩ => j ≤ (p 3).length ∧ ((accP p 3 j).filter (lackV v)).length ≤ most.toNat) (fun ⟨j, h⟩ => (p 3).length - j) ⟨0, h⟩ (⟨Nat.zero_le _, by first | exact Nat.zero_le _ | (rw [acc_end (j := j) (by omega)]; exact hJ.2)⟩) (by simp only [anys, upds, offs, List.set_cons_zero, List.set_cons_succ]; repeat (first | exact Wk.nil | refine Wk.same ?_ | refine Wk.any ?_)) (by simp only [anys, upds, offs, List.set_cons_zero, List.set_cons_succ]; repeat (first | exact Sk.nil _ | refine Sk.same _ ?_ | refine Sk.scr _ (by decide) ?_ | refine Sk.eq _ (by first | rfl | (rw [acc_end (j := j) (by omega)])) ?_)) ?_
     rintro ⟨j, h⟩ gs hJ
     refine AW.norm (by simp only [anys, upds, offs, List.set_cons_zero, List.set_cons_succ]; rfl) (by (try simp only [anys, upds, offs, List.set_cons_zero, List.set_cons_succ]); (try rfl)) ?_
     refine AW.seq ?_
     refine AW.region ?_
     refine AL.r (rd_bin rfl rfl rfl (fun _ => rfl)) ?_
     refine AL.nil ?_
     change AW _ _ _ _ _
     refine AW.seq ?_
     refine AW.cd rfl (fun h24 => ?_) (fun h24 => ?_)
     ·skip
      refine AW.skip ?_
      change AW _ _ _ _ _
      refine AW.seq ?_
      refine AW.block ?_
      refine AW.seq ?_
      refine AW.region ?_
      refine AL.r (rd_iaddr_owM rfl el_50 rfl rfl rfl rfl (by simp only [List.length_map]; omega)) ?_
      refine AL.r (rd_loadN_boM _ rfl ag_47 rfl rfl rfl rfl (get_mapA (by omega))) ?_
      dsimp only [OpD.cs]
      refine AL.op rfl (AOpB.op (op_alloc 8 rfl ze_47 rfl ?_))
      refine AL.no ?_
      refine AL.op rfl (op_store_ rfl rfl rfl rfl rfl sz_47 ?_)
      refine AL.no ?_
      refine AL.nil ?_
      change AW _ _ _ _ _
      refine AW.seq ?_
      refine AW.seq ?_
      refine AW.region ?_
      refine AL.rm ?_
      refine AL.r (rd_len_owM rfl el_50 rfl rfl) ?_
      refine AL.rm ?_
      refine AL.r (rd_bin rfl rfl rfl (fun _ => rfl)) ?_
      refine AL.nil ?_
      change AW _ _ _ _ _
      refine AW.cd rfl (fun h30 => ?_) (fun h30 => ?_)
      ·skip
       refine AW.seq ?_
       refine AW.region ?_
       refine AL.rm ?_
       refine AL.ra ?_
       refine AL.nil ?_
       change AW _ _ _ _ _
       refine AW.ret ?_
       repeat with_reducible first | refine thenA_ret ?_ | refine inBlockA_ret ?_
       with_reducible first | refine retO_ret ?_ | refine retO_normal ?_
       refine reso1P rfl (ResV.tmp rfl) (by first | exact resO_owM (by decide) rfl | exact resO_own (by decide) rfl | exact resO_set (by decide) rfl | exact resO_setM (by decide) rfl) ?_
       exact ⟨lfS (since_stop (by decide) hJ.2 (by simp only [List.length_map] at *; omega)), rfl⟩
      ·skip
       refine AW.skip ?_
       change AW _ _ _ _ _
       refine AW.seq ?_
       refine AW.region ?_
       refine AL.r (rd_loadN_bx rfl ag_58 rfl rfl (Nat.le_of_ble_eq_true rfl) rfl) ?_
       refine AL.r (rd_faddr_bx rfl fo_47_0 rfl rfl ⟨_, _, rfl⟩) ?_
       refine AL.r (rd_loadN_bx rfl ag_44 rfl rfl (Nat.le_of_ble_eq_true rfl) rfl) ?_
       refine AL.op rfl (AOpB.op (op_call (dhas_c v ((p 3)[j]'(by omega)).id) rfl (by kernel_rfl) rfl (none) ?_))
       rintro r rfl
       refine AL.no ?_
       refine AL.r (rd_un rfl rfl (fun _ => rfl)) ?_
       refine AL.nil ?_
       change AW _ _ _ _ _
       refine AW.cd rfl (fun h36 => ?_) (fun h36 => ?_)
       ·skip
        refine AW.region ?_
        refine AL.rm ?_
        refine AL.r (rd_loadN_bx rfl ag_47 rfl rfl (Nat.le_of_ble_eq_true rfl) rfl) ?_
        refine AL.op rfl (AOpB.op (op_call (oown_c ((p 3)[j]'(by omega)) (hok.drops (i := 3) (by decide) (List.getElem_mem _))) rfl (by kernel_rfl) rfl (none) ?_))
        rintro r rfl
        refine AL.no ?_
        refine AL.op rfl (AOpB.op (bs_set rfl ap_50 ze_47 rfl rfl ?_))
        refine AL.no ?_
        refine AL.op rfl (op_appendM rfl ap_50 rfl rfl (src_s rfl) (by have := acc_len hok (i := 3) (j := j) v (by decide); simp; omega) (by have := acc_len hok (i := 3) (j := j) v (by decide); simp; omega) ?_)
        refine AL.no ?_
        refine AL.ra ?_
        refine AL.nil ?_
        change AW _ _ _ _ _
        refine AW.region ?_
        refine AL.r (rd_arith_add rfl rfl rfl (by first | exact IntWalk.i64_in _ (by omega) | rfl)) ?_
        refine AL.rm ?_
        refine AL.nil ?_
        first
          | refine ⟨⟨j + 1, h + 1⟩, ?_, ?_, ?_, ?_⟩
            ·exact ⟨by omega, by rw [lack_f (by assumption), List.length_append]; simp only [List.length_map] at *; simp; omega⟩
            ·first | omega | (simp only []; omega)
            ·simp only [anys, upds, offs, List.set_cons_zero, List.set_cons_succ]; repeat (first | exact Wk.nil | refine Wk.same ?_ | refine Wk.any ?_)
            ·simp only [anys, upds, offs, List.set_cons_zero, List.set_cons_succ]; repeat (first | exact Sk.nil _ | refine Sk.same _ ?_ | refine Sk.scr _ (by decide) ?_ | refine Sk.eq _ (by first | (rw [lack_f (by assumption)]; simp [OpD.cs]; done) | (rw [lack_t (by assumption)])) ?_)
          | refine ⟨⟨j + 1, h⟩, ?_, ?_, ?_, ?_⟩
            ·exact ⟨by omega, by rw [lack_t (by assumption)]; exact hJ.2⟩
            ·first | omega | (simp only []; omega)
            ·simp only [anys, upds, offs, List.set_cons_zero, List.set_cons_succ]; repeat (first | exact Wk.nil | refine Wk.same ?_ | refine Wk.any ?_)
            ·simp only [anys, upds, offs, List.set_cons_zero, List.set_cons_succ]; repeat (first | exact Sk.nil _ | refine Sk.same _ ?_ | refine Sk.scr _ (by decide) ?_ | refine Sk.eq _ (by first | (rw [lack_f (by assumption)]; simp [OpD.cs]; done) | (rw [lack_t (by assumption)])) ?_)
       ·skip
        refine AW.skip ?_
        change AW _ _ _ _ _
        refine AW.region ?_
        refine AL.r (rd_arith_add rfl rfl rfl (by first | exact IntWalk.i64_in _ (by omega) | rfl)) ?_
        refine AL.rm ?_
        refine AL.nil ?_
        refine ⟨⟨j + 1, h⟩, ?_, by first | omega | (simp only []; omega), ?_, ?_⟩
        ·exact ⟨by omega, by rw [lack_t (by assumption)]; exact hJ.2⟩
        ·simp only [anys, upds, offs, List.set_cons_zero, List.set_cons_succ]; repeat (first | exact Wk.nil | refine Wk.same ?_ | refine Wk.any ?_)
        ·simp only [anys, upds, offs, List.set_cons_zero, List.set_cons_succ]; repeat (first | exact Sk.nil _ | refine Sk.same _ ?_ | refine Sk.scr _ (by decide) ?_ | refine Sk.eq _ (by first | (rw [lack_f (by assumption)]; simp [OpD.cs]; done) | (rw [lack_t (by assumption)])) ?_)
     ·skip
      refine AW.exit ?_
      change AW _ _ _ _ _
      refine AW.region ?_
      refine AL.r (rd_arith_add rfl rfl rfl (rfl : _ = (4 : Int))) ?_
      refine AL.rm ?_
      refine AL.nil ?_
      change AW _ _ _ _ _
      refine AW.seq ?_
      refine AW.region ?_
      refine AL.r (rd_bin rfl rfl rfl (fun _ => rfl)) ?_
      refine AL.nil ?_
      change AW _ _ _ _ _
      refine AW.seq ?_
      refine AW.cond_t rfl ?_
      refine AW.skip ?_
      change AW _ _ _ _ _
      refine AW.seq ?_
      refine AW.block ?_
      refine AW.seq ?_
      refine AW.region ?_
      refine AL.r (rd_index_ag (i := 4) rfl ar_112 ag_50 rfl rfl (by first | rfl | omega) (by decide) rfl) ?_
      refine AL.ra ?_
      refine AL.nil ?_
      change AW _ _ _ _ _
      refine AW.seq ?_
      refine AW.region ?_
      refine AL.rm ?_
      refine AL.r (rd_len_owM rfl el_50 rfl rfl) ?_
      refine AL.rm ?_
      refine AL.nil ?_
      change AW _ _ _ _ _
      refine AW.block ?_
      refine AW.loopM (ι := Nat × Nat) [6, 11, 24, 25, 26, 27, 28, 29, 30, 31, 32, 33, 34, 35, 36, 37, 38, 39, 40, 41, 42] (fun ⟨j, h⟩ => [(23, AI (j : Int)), (7, .ow 11 h)]) [8, 9, 10] (fun ⟨j, h⟩ => [(11, ⟨h, owM true 47 15 (((accP p 4 j).filter (lackV v)).map OpD.cs)⟩)]) (fun ⟨j, h⟩ => j ≤ (p 4).length ∧ ((accP p 4 j).filter (lackV v)).length ≤ most.toNat) (fun ⟨j, h⟩ => (p 4).length - j) ⟨0, h⟩ (⟨Nat.zero_le _, by first | exact Nat.zero_le _ | (rw [acc_end (j := j) (by omega)]; exact hJ.2)⟩) (by simp only [anys, upds, offs, List.set_cons_zero, List.set_cons_succ]; repeat (first | exact Wk.nil | refine Wk.same ?_ | refine Wk.any ?_)) (by simp only [anys, upds, offs, List.set_cons_zero, List.set_cons_succ]; repeat (first | exact Sk.nil _ | refine Sk.same _ ?_ | refine Sk.scr _ (by decide) ?_ | refine Sk.eq _ (by first | rfl | (rw [acc_end (j := j) (by omega)])) ?_)) ?_
      rintro ⟨j, h⟩ gs hJ
      refine AW.norm (by simp only [anys, upds, offs, List.set_cons_zero, List.set_cons_succ]; rfl) (by (try simp only [anys, upds, offs, List.set_cons_zero, List.set_cons_succ]); (try rfl)) ?_
      refine AW.seq ?_
      refine AW.region ?_
      refine AL.r (rd_bin rfl rfl rfl (fun _ => rfl)) ?_
      refine AL.nil ?_
      change AW _ _ _ _ _
      refine AW.seq ?_
      refine AW.cd rfl (fun h24 => ?_) (fun h24 => ?_)
      ·skip
       refine AW.skip ?_
       change AW _ _ _ _ _
       refine AW.seq ?_
       refine AW.block ?_
       refine AW.seq ?_
       refine AW.region ?_
       refine AL.r (rd_iaddr_owM rfl el_50 rfl rfl rfl rfl (by simp only [List.length_map]; omega)) ?_
       refine AL.r (rd_loadN_boM _ rfl ag_47 rfl rfl rfl rfl (get_mapA (by omega))) ?_
       dsimp only [OpD.cs]
       refine AL.op rfl (AOpB.op (op_alloc 8 rfl ze_47 rfl ?_))
       refine AL.no ?_
       refine AL.op rfl (op_store_ rfl rfl rfl rfl rfl sz_47 ?_)
       refine AL.no ?_
       refine AL.nil ?_
       change AW _ _ _ _ _
       refine AW.seq ?_
       refine AW.seq ?_
       refine AW.region ?_
       refine AL.rm ?_
       refine AL.r (rd_len_owM rfl el_50 rfl rfl) ?_
       refine AL.rm ?_
       refine AL.r (rd_bin rfl rfl rfl (fun _ => rfl)) ?_
       refine AL.nil ?_
       change AW _ _ _ _ _
       refine AW.cd rfl (fun h30 => ?_) (fun h30 => ?_)
       ·skip
        refine AW.seq ?_
        refine AW.region ?_
        refine AL.rm ?_
        refine AL.ra ?_
        refine AL.nil ?_
        change AW _ _ _ _ _
        refine AW.ret ?_
        repeat with_reducible first | refine thenA_ret ?_ | refine inBlockA_ret ?_
        with_reducible first | refine retO_ret ?_ | refine retO_normal ?_
        refine reso1P rfl (ResV.tmp rfl) (by first | exact resO_owM (by decide) rfl | exact resO_own (by decide) rfl | exact resO_set (by decide) rfl | exact resO_setM (by decide) rfl) ?_
        exact ⟨lfS (since_stop (by decide) hJ.2 (by simp only [List.length_map] at *; omega)), rfl⟩
       ·skip
        refine AW.skip ?_
        change AW _ _ _ _ _
        refine AW.seq ?_
        refine AW.region ?_
        refine AL.r (rd_loadN_bx rfl ag_58 rfl rfl (Nat.le_of_ble_eq_true rfl) rfl) ?_
        refine AL.r (rd_faddr_bx rfl fo_47_0 rfl rfl ⟨_, _, rfl⟩) ?_
        refine AL.r (rd_loadN_bx rfl ag_44 rfl rfl (Nat.le_of_ble_eq_true rfl) rfl) ?_
        refine AL.op rfl (AOpB.op (op_call (dhas_c v ((p 4)[j]'(by omega)).id) rfl (by kernel_rfl) rfl (none) ?_))
        rintro r rfl
        refine AL.no ?_
        refine AL.r (rd_un rfl rfl (fun _ => rfl)) ?_
        refine AL.nil ?_
        change AW _ _ _ _ _
        refine AW.cd rfl (fun h36 => ?_) (fun h36 => ?_)
        ·skip
         refine AW.region ?_
         refine AL.rm ?_
         refine AL.r (rd_loadN_bx rfl ag_47 rfl rfl (Nat.le_of_ble_eq_true rfl) rfl) ?_
         refine AL.op rfl (AOpB.op (op_call (oown_c ((p 4)[j]'(by omega)) (hok.drops (i := 4) (by decide) (List.getElem_mem _))) rfl (by kernel_rfl) rfl (none) ?_))
         rintro r rfl
         refine AL.no ?_
         refine AL.op rfl (AOpB.op (bs_set rfl ap_50 ze_47 rfl rfl ?_))
         refine AL.no ?_
         refine AL.op rfl (op_appendM rfl ap_50 rfl rfl (src_s rfl) (by have := acc_len hok (i := 4) (j := j) v (by decide); simp; omega) (by have := acc_len hok (i := 4) (j := j) v (by decide); simp; omega) ?_)
         refine AL.no ?_
         refine AL.ra ?_
         refine AL.nil ?_
         change AW _ _ _ _ _
         refine AW.region ?_
         refine AL.r (rd_arith_add rfl rfl rfl (by first | exact IntWalk.i64_in _ (by omega) | rfl)) ?_
         refine AL.rm ?_
         refine AL.nil ?_
         first
           | refine ⟨⟨j + 1, h + 1⟩, ?_, ?_, ?_, ?_⟩
             ·exact ⟨by omega, by rw [lack_f (by assumption), List.length_append]; simp only [List.length_map] at *; simp; omega⟩
             ·first | omega | (simp only []; omega)
             ·simp only [anys, upds, offs, List.set_cons_zero, List.set_cons_succ]; repeat (first | exact Wk.nil | refine Wk.same ?_ | refine Wk.any ?_)
             ·simp only [anys, upds, offs, List.set_cons_zero, List.set_cons_succ]; repeat (first | exact Sk.nil _ | refine Sk.same _ ?_ | refine Sk.scr _ (by decide) ?_ | refine Sk.eq _ (by first | (rw [lack_f (by assumption)]; simp [OpD.cs]; done) | (rw [lack_t (by assumption)])) ?_)
           | refine ⟨⟨j + 1, h⟩, ?_, ?_, ?_, ?_⟩
             ·exact ⟨by omega, by rw [lack_t (by assumption)]; exact hJ.2⟩
             ·first | omega | (simp only []; omega)
             ·simp only [anys, upds, offs, List.set_cons_zero, List.set_cons_succ]; repeat (first | exact Wk.nil | refine Wk.same ?_ | refine Wk.any ?_)
             ·simp only [anys, upds, offs, List.set_cons_zero, List.set_cons_succ]; repeat (first | exact Sk.nil _ | refine Sk.same _ ?_ | refine Sk.scr _ (by decide) ?_ | refine Sk.eq _ (by first | (rw [lack_f (by assumption)]; simp [OpD.cs]; done) | (rw [lack_t (by assumption)])) ?_)
        ·skip
         refine AW.skip ?_
         change AW _ _ _ _ _
         refine AW.region ?_
         refine AL.r (rd_arith_add rfl rfl rfl (by first | exact IntWalk.i64_in _ (by omega) | rfl)) ?_
         refine AL.rm ?_
         refine AL.nil ?_
         refine ⟨⟨j + 1, h⟩, ?_, by first | omega | (simp only []; omega), ?_, ?_⟩
         ·exact ⟨by omega, by rw [lack_t (by assumption)]; exact hJ.2⟩
         ·simp only [anys, upds, offs, List.set_cons_zero, List.set_cons_succ]; repeat (first | exact Wk.nil | refine Wk.same ?_ | refine Wk.any ?_)
         ·simp only [anys, upds, offs, List.set_cons_zero, List.set_cons_succ]; repeat (first | exact Sk.nil _ | refine Sk.same _ ?_ | refine Sk.scr _ (by decide) ?_ | refine Sk.eq _ (by first | (rw [lack_f (by assumption)]; simp [OpD.cs]; done) | (rw [lack_t (by assumption)])) ?_)
      ·skip
       refine AW.exit ?_
       change AW _ _ _ _ _
       refine AW.region ?_
       refine AL.r (rd_arith_add rfl rfl rfl (rfl : _ = (5 : Int))) ?_
       refine AL.rm ?_
       refine AL.nil ?_
       change AW _ _ _ _ _
       refine AW.seq ?_
       refine AW.region ?_
       refine AL.r (rd_bin rfl rfl rfl (fun _ => rfl)) ?_
       refine AL.nil ?_
       change AW _ _ _ _ _
       refine AW.seq ?_
       refine AW.cond_t rfl ?_
       refine AW.skip ?_
       change AW _ _ _ _ _
       refine AW.seq ?_
       refine AW.block ?_
       refine AW.seq ?_
       refine AW.region ?_
       refine AL.r (rd_index_ag (i := 5) rfl ar_112 ag_50 rfl rfl (by first | rfl | omega) (by decide) rfl) ?_
       refine AL.ra ?_
       refine AL.nil ?_
       change AW _ _ _ _ _
       refine AW.seq ?_
       refine AW.region ?_
       refine AL.rm ?_
       refine AL.r (rd_len_owM rfl el_50 rfl rfl) ?_
       refine AL.rm ?_
       refine AL.nil ?_
       change AW _ _ _ _ _
       refine AW.block ?_
       refine AW.loopM (ι := Nat × Nat) [6, 11, 24, 25, 26, 27, 28, 29, 30, 31, 32, 33, 34, 35, 36, 37, 38, 39, 40, 41, 42] (fun ⟨j, h⟩ => [(23, AI (j : Int)), (7, .ow 11 h)]) [8, 9, 10] (fun ⟨j, h⟩ => [(11, ⟨h, owM true 47 15 (((accP p 5 j).filter (lackV v)).map OpD.cs)⟩)]) (fun ⟨j, h⟩ => j ≤ (p 5).length ∧ ((accP p 5 j).filter (lackV v)).length ≤ most.toNat) (fun ⟨j, h⟩ => (p 5).length - j) ⟨0, h⟩ (⟨Nat.zero_le _, by first | exact Nat.zero_le _ | (rw [acc_end (j := j) (by omega)]; exact hJ.2)⟩) (by simp only [anys, upds, offs, List.set_cons_zero, List.set_cons_succ]; repeat (first | exact Wk.nil | refine Wk.same ?_ | refine Wk.any ?_)) (by simp only [anys, upds, offs, List.set_cons_zero, List.set_cons_succ]; repeat (first | exact Sk.nil _ | refine Sk.same _ ?_ | refine Sk.scr _ (by decide) ?_ | refine Sk.eq _ (by first | rfl | (rw [acc_end (j := j) (by omega)])) ?_)) ?_
       rintro ⟨j, h⟩ gs hJ
       refine AW.norm (by simp only [anys, upds, offs, List.set_cons_zero, List.set_cons_succ]; rfl) (by (try simp only [anys, upds, offs, List.set_cons_zero, List.set_cons_succ]); (try rfl)) ?_
       refine AW.seq ?_
       refine AW.region ?_
       refine AL.r (rd_bin rfl rfl rfl (fun _ => rfl)) ?_
       refine AL.nil ?_
       change AW _ _ _ _ _
       refine AW.seq ?_
       refine AW.cd rfl (fun h24 => ?_) (fun h24 => ?_)
       ·skip
        refine AW.skip ?_
        change AW _ _ _ _ _
        refine AW.seq ?_
        refine AW.block ?_
        refine AW.seq ?_
        refine AW.region ?_
        refine AL.r (rd_iaddr_owM rfl el_50 rfl rfl rfl rfl (by simp only [List.length_map]; omega)) ?_
        refine AL.r (rd_loadN_boM _ rfl ag_47 rfl rfl rfl rfl (get_mapA (by omega))) ?_
        dsimp only [OpD.cs]
        refine AL.op rfl (AOpB.op (op_alloc 8 rfl ze_47 rfl ?_))
        refine AL.no ?_
        refine AL.op rfl (op_store_ rfl rfl rfl rfl rfl sz_47 ?_)
        refine AL.no ?_
        refine AL.nil ?_
        change AW _ _ _ _ _
        refine AW.seq ?_
        refine AW.seq ?_
        refine AW.region ?_
        refine AL.rm ?_
        refine AL.r (rd_len_owM rfl el_50 rfl rfl) ?_
        refine AL.rm ?_
        refine AL.r (rd_bin rfl rfl rfl (fun _ => rfl)) ?_
        refine AL.nil ?_
        change AW _ _ _ _ _
        refine AW.cd rfl (fun h30 => ?_) (fun h30 => ?_)
        ·skip
         refine AW.seq ?_
         refine AW.region ?_
         refine AL.rm ?_
         refine AL.ra ?_
         refine AL.nil ?_
         change AW _ _ _ _ _
         refine AW.ret ?_
         repeat with_reducible first | refine thenA_ret ?_ | refine inBlockA_ret ?_
         with_reducible first | refine retO_ret ?_ | refine retO_normal ?_
         refine reso1P rfl (ResV.tmp rfl) (by first | exact resO_owM (by decide) rfl | exact resO_own (by decide) rfl | exact resO_set (by decide) rfl | exact resO_setM (by decide) rfl) ?_
         exact ⟨lfS (since_stop (by decide) hJ.2 (by simp only [List.length_map] at *; omega)), rfl⟩
        ·skip
         refine AW.skip ?_
         change AW _ _ _ _ _
         refine AW.seq ?_
         refine AW.region ?_
         refine AL.r (rd_loadN_bx rfl ag_58 rfl rfl (Nat.le_of_ble_eq_true rfl) rfl) ?_
         refine AL.r (rd_faddr_bx rfl fo_47_0 rfl rfl ⟨_, _, rfl⟩) ?_
         refine AL.r (rd_loadN_bx rfl ag_44 rfl rfl (Nat.le_of_ble_eq_true rfl) rfl) ?_
         refine AL.op rfl (AOpB.op (op_call (dhas_c v ((p 5)[j]'(by omega)).id) rfl (by kernel_rfl) rfl (none) ?_))
         rintro r rfl
         refine AL.no ?_
         refine AL.r (rd_un rfl rfl (fun _ => rfl)) ?_
         refine AL.nil ?_
         change AW _ _ _ _ _
         refine AW.cd rfl (fun h36 => ?_) (fun h36 => ?_)
         ·skip
          refine AW.region ?_
          refine AL.rm ?_
          refine AL.r (rd_loadN_bx rfl ag_47 rfl rfl (Nat.le_of_ble_eq_true rfl) rfl) ?_
          refine AL.op rfl (AOpB.op (op_call (oown_c ((p 5)[j]'(by omega)) (hok.drops (i := 5) (by decide) (List.getElem_mem _))) rfl (by kernel_rfl) rfl (none) ?_))
          rintro r rfl
          refine AL.no ?_
          refine AL.op rfl (AOpB.op (bs_set rfl ap_50 ze_47 rfl rfl ?_))
          refine AL.no ?_
          refine AL.op rfl (op_appendM rfl ap_50 rfl rfl (src_s rfl) (by have := acc_len hok (i := 5) (j := j) v (by decide); simp; omega) (by have := acc_len hok (i := 5) (j := j) v (by decide); simp; omega) ?_)
          refine AL.no ?_
          refine AL.ra ?_
          refine AL.nil ?_
          change AW _ _ _ _ _
          refine AW.region ?_
          refine AL.r (rd_arith_add rfl rfl rfl (by first | exact IntWalk.i64_in _ (by omega) | rfl)) ?_
          refine AL.rm ?_
          refine AL.nil ?_
          first
            | refine ⟨⟨j + 1, h + 1⟩, ?_, ?_, ?_, ?_⟩
              ·exact ⟨by omega, by rw [lack_f (by assumption), List.length_append]; simp only [List.length_map] at *; simp; omega⟩
              ·first | omega | (simp only []; omega)
              ·simp only [anys, upds, offs, List.set_cons_zero, List.set_cons_succ]; repeat (first | exact Wk.nil | refine Wk.same ?_ | refine Wk.any ?_)
              ·simp only [anys, upds, offs, List.set_cons_zero, List.set_cons_succ]; repeat (first | exact Sk.nil _ | refine Sk.same _ ?_ | refine Sk.scr _ (by decide) ?_ | refine Sk.eq _ (by first | (rw [lack_f (by assumption)]; simp [OpD.cs]; done) | (rw [lack_t (by assumption)])) ?_)
            | refine ⟨⟨j + 1, h⟩, ?_, ?_, ?_, ?_⟩
              ·exact ⟨by omega, by rw [lack_t (by assumption)]; exact hJ.2⟩
              ·first | omega | (simp only []; omega)
              ·simp only [anys, upds, offs, List.set_cons_zero, List.set_cons_succ]; repeat (first | exact Wk.nil | refine Wk.same ?_ | refine Wk.any ?_)
              ·simp only [anys, upds, offs, List.set_cons_zero, List.set_cons_succ]; repeat (first | exact Sk.nil _ | refine Sk.same _ ?_ | refine Sk.scr _ (by decide) ?_ | refine Sk.eq _ (by first | (rw [lack_f (by assumption)]; simp [OpD.cs]; done) | (rw [lack_t (by assumption)])) ?_)
         ·skip
          refine AW.skip ?_
          change AW _ _ _ _ _
          refine AW.region ?_
          refine AL.r (rd_arith_add rfl rfl rfl (by first | exact IntWalk.i64_in _ (by omega) | rfl)) ?_
          refine AL.rm ?_
          refine AL.nil ?_
          refine ⟨⟨j + 1, h⟩, ?_, by first | omega | (simp only []; omega), ?_, ?_⟩
          ·exact ⟨by omega, by rw [lack_t (by assumption)]; exact hJ.2⟩
          ·simp only [anys, upds, offs, List.set_cons_zero, List.set_cons_succ]; repeat (first | exact Wk.nil | refine Wk.same ?_ | refine Wk.any ?_)
          ·simp only [anys, upds, offs, List.set_cons_zero, List.set_cons_succ]; repeat (first | exact Sk.nil _ | refine Sk.same _ ?_ | refine Sk.scr _ (by decide) ?_ | refine Sk.eq _ (by first | (rw [lack_f (by assumption)]; simp [OpD.cs]; done) | (rw [lack_t (by assumption)])) ?_)
       ·skip
        refine AW.exit ?_
        change AW _ _ _ _ _
        refine AW.region ?_
        refine AL.r (rd_arith_add rfl rfl rfl (rfl : _ = (6 : Int))) ?_
        refine AL.rm ?_
        refine AL.nil ?_
        change AW _ _ _ _ _
        refine AW.seq ?_
        refine AW.region ?_
        refine AL.r (rd_bin rfl rfl rfl (fun _ => rfl)) ?_
        refine AL.nil ?_
        change AW _ _ _ _ _
        refine AW.seq ?_
        refine AW.cond_f rfl ?_
        refine AW.exit ?_
        change AW _ _ _ _ _
        refine AW.seq ?_
        refine AW.region ?_
        refine AL.rm ?_
        refine AL.ra ?_
        refine AL.nil ?_
        change AW _ _ _ _ _
        refine AW.ret ?_
        repeat with_reducible first | refine thenA_ret ?_ | refine inBlockA_ret ?_
        with_reducible first | refine retO_ret ?_ | refine retO_normal ?_
        refine reso1P rfl (ResV.tmp rfl) (by first | exact resO_owM (by decide) rfl | exact resO_own (by decide) rfl | exact resO_set (by decide) rfl | exact resO_setM (by decide) rfl) ?_
        exact ⟨lfS (since_end (by omega) hJ.2), rfl⟩
def zeroV : VecD := fun _ => 0
set_option maxHeartbeats 1000000 in
theorem pops_c : ACo Try.prog 29 [.bx 0 g 0] (poolT g g1 g2 g3 g4 g5 g6 p) (fun y os' => y = .sl ((sinceL p zeroV 400).map OpD.cs) ∧ os' = poolT g g1 g2 g3 g4 g5 g6 p) := by
  refine ACo.of' (st0 := [⟨g, .box 114 [.ow 1 g1, .ow 2 g2, .ow 3 g3, .ow 4 g4, .ow 5 g5, .ow 6 g6]⟩, ⟨g1, owM true 47 15 ((p 0).map OpD.cs)⟩, ⟨g2, owM true 47 15 ((p 1).map OpD.cs)⟩, ⟨g3, owM true 47 15 ((p 2).map OpD.cs)⟩, ⟨g4, owM true 47 15 ((p 3).map OpD.cs)⟩, ⟨g5, owM true 47 15 ((p 4).map OpD.cs)⟩, ⟨g6, owM true 47 15 ((p 5).map OpD.cs)⟩]) 5 0 Try.func29 rfl 7 ?_
  refine AW.seq ?_
  refine AW.region ?_
  refine AL.ra ?_
  refine AL.nil ?_
  change AW _ _ _ _ _
  refine AW.seq ?_
  refine AW.region ?_
  refine AL.rm ?_
  refine AL.r (rd_buildA rfl ar_58 ze_58 rfl rfl) ?_
  refine AL.op rfl (calloP (psince_c p hok g g1 g2 g3 g4 g5 g6 zeroV 400) [0, 1, 2, 3, 4, 5, 6] ?_)
  rintro y os' ⟨rfl, rfl⟩
  refine AL.noP ?_
  refine AL.ra ?_
  refine AL.nil ?_
  change AW _ _ _ _ _
  refine AW.ret ?_
  repeat with_reducible first | refine thenA_ret ?_ | refine inBlockA_ret ?_
  with_reducible first | refine retO_ret ?_ | refine retO_normal ?_
  refine reso1P rfl (ResV.tmp rfl) rfl ?_
  exact ⟨rfl, rfl⟩
set_option maxHeartbeats 1000000 in
theorem pclock_c : ACo Try.prog 43 [.bx 0 g 0] (poolT g g1 g2 g3 g4 g5 g6 p) (fun y os' => y = AI (clockP p) ∧ os' = poolT g g1 g2 g3 g4 g5 g6 p) := by
  have htot := hok.tot
  refine ACo.of' (st0 := [⟨g, .box 114 [.ow 1 g1, .ow 2 g2, .ow 3 g3, .ow 4 g4, .ow 5 g5, .ow 6 g6]⟩, ⟨g1, owM true 47 15 ((p 0).map OpD.cs)⟩, ⟨g2, owM true 47 15 ((p 1).map OpD.cs)⟩, ⟨g3, owM true 47 15 ((p 2).map OpD.cs)⟩, ⟨g4, owM true 47 15 ((p 3).map OpD.cs)⟩, ⟨g5, owM true 47 15 ((p 4).map OpD.cs)⟩, ⟨g6, owM true 47 15 ((p 5).map OpD.cs)⟩, TK.mk 0 .off]) 30 1 Try.func43 rfl 7 ?_
  refine AW.seq ?_
  refine AW.region ?_
  refine AL.ra ?_
  refine AL.nil ?_
  change AW _ _ _ _ _
  refine AW.seq ?_
  refine AW.region ?_
  refine AL.ra ?_
  refine AL.nil ?_
  change AW _ _ _ _ _
  refine AW.seq ?_
  refine AW.seq ?_
  refine AW.region ?_
  refine AL.rm ?_
  refine AL.r (rd_peq_bx rfl pt_41 rfl rfl rfl) ?_
  refine AL.nil ?_
  change AW _ _ _ _ _
  refine AW.cond_f rfl ?_
  refine AW.skip ?_
  change AW _ _ _ _ _
  refine AW.seq ?_
  refine AW.seq ?_
  refine AW.region ?_
  refine AL.rm ?_
  refine AL.r (rd_nilc_bx rfl rfl rfl) ?_
  refine AL.r (rd_faddr_bx rfl fo_114_0 rfl rfl ⟨_, _, rfl⟩) ?_
  refine AL.r (rd_loadN_bx rfl ag_112 rfl rfl (Nat.le_of_ble_eq_true rfl) rfl) ?_
  refine AL.rm ?_
  refine AL.nil ?_
  change AW _ _ _ _ _
  refine AW.block ?_
  refine AW.unroll 7 ?_
  change AW _ _ _ _ _
  refine AW.seq ?_
  refine AW.region ?_
  refine AL.r (rd_bin rfl rfl rfl (fun _ => rfl)) ?_
  refine AL.nil ?_
  change AW _ _ _ _ _
  refine AW.seq ?_
  refine AW.cond_t rfl ?_
  refine AW.skip ?_
  change AW _ _ _ _ _
  refine AW.seq ?_
  refine AW.block ?_
  refine AW.seq ?_
  refine AW.region ?_
  refine AL.r (rd_index_ag (i := 0) rfl ar_112 ag_50 rfl rfl (by first | rfl | omega) (by decide) rfl) ?_
  refine AL.ra ?_
  refine AL.nil ?_
  change AW _ _ _ _ _
  refine AW.seq ?_
  refine AW.region ?_
  refine AL.rm ?_
  refine AL.r (rd_len_owM rfl el_50 rfl rfl) ?_
  refine AL.rm ?_
  refine AL.nil ?_
  change AW _ _ _ _ _
  refine AW.block ?_
  refine AW.loopM (ι := Nat × Int) [7, 21, 22, 23, 24, 25, 26, 27, 28] (fun ⟨j, c⟩ => [(20, AI (j : Int)), (3, AI c)]) [7] (fun ⟨j, c⟩ => []) (fun ⟨j, c⟩ => j ≤ (p 0).length ∧ c = (accP p 0 j).foldl stepT 0) (fun ⟨j, c⟩ => (p 0).length - j) ⟨0, 0⟩ (⟨Nat.zero_le _, by first | rfl | (rw [acc_end (j := j) (by omega)]; exact hJ.2)⟩) (by simp only [anys, upds, offs, List.set_cons_zero, List.set_cons_succ]; repeat (first | exact Wk.nil | refine Wk.same ?_ | refine Wk.any ?_)) (by simp only [anys, upds, offs, List.set_cons_zero, List.set_cons_succ]; repeat (first | exact Sk.nil _ | refine Sk.same _ ?_ | refine Sk.scr _ (by decide) ?_)) ?_
  rintro ⟨j, c⟩ gs hJ
  refine AW.norm (by simp only [anys, upds, offs, List.set_cons_zero, List.set_cons_succ]; rfl) (by (try simp only [anys, upds, offs, List.set_cons_zero, List.set_cons_succ]); (try rfl)) ?_
  refine AW.seq ?_
  refine AW.region ?_
  refine AL.r (rd_bin rfl rfl rfl (fun _ => rfl)) ?_
  refine AL.nil ?_
  change AW _ _ _ _ _
  refine AW.seq ?_
  refine AW.cd rfl (fun h21 => ?_) (fun h21 => ?_)
  ·skip
   refine AW.skip ?_
   change AW _ _ _ _ _
   refine AW.seq ?_
   refine AW.block ?_
   refine AW.seq ?_
   refine AW.region ?_
   refine AL.r (rd_iaddr_owM rfl el_50 rfl rfl rfl rfl (by simp only [List.length_map]; omega)) ?_
   refine AL.r (rd_loadN_boM _ rfl ag_47 rfl rfl rfl rfl (get_mapA (by omega))) ?_
   dsimp only [OpD.cs]
   refine AL.op rfl (AOpB.op (op_alloc 7 rfl ze_47 rfl ?_))
   refine AL.no ?_
   refine AL.op rfl (op_store_ rfl rfl rfl rfl rfl sz_47 ?_)
   refine AL.no ?_
   refine AL.nil ?_
   change AW _ _ _ _ _
   refine AW.region ?_
   refine AL.rm ?_
   refine AL.r (rd_faddr_bx rfl fo_47_2 rfl rfl ⟨_, _, rfl⟩) ?_
   refine AL.r (rd_load_bx rfl ag_2 rfl rfl rfl) ?_
   refine AL.r (rd_max rfl rfl rfl (show _ = stepT c ((p 0)[j]'(by omega)) from rfl)) ?_
   refine AL.ra ?_
   refine AL.nil ?_
   change AW _ _ _ _ _
   refine AW.region ?_
   refine AL.r (rd_arith_add rfl rfl rfl (by first | exact IntWalk.i64_in _ (by omega) | rfl)) ?_
   refine AL.rm ?_
   refine AL.nil ?_
   refine ⟨⟨j + 1, stepT c ((p 0)[j]'(by omega))⟩, ?_, by first | omega | (simp only []; omega), ?_, ?_⟩
   ·exact ⟨by omega, by rw [clock_next (h := by omega), ← hJ.2]⟩
   ·simp only [anys, upds, offs, List.set_cons_zero, List.set_cons_succ]; repeat (first | exact Wk.nil | refine Wk.same ?_ | refine Wk.any ?_)
   ·simp only [anys, upds, offs, List.set_cons_zero, List.set_cons_succ]; repeat (first | exact Sk.nil _ | refine Sk.same _ ?_ | refine Sk.scr _ (by decide) ?_)
  ·skip
   refine AW.exit ?_
   change AW _ _ _ _ _
   refine AW.region ?_
   refine AL.r (rd_arith_add rfl rfl rfl (rfl : _ = (1 : Int))) ?_
   refine AL.rm ?_
   refine AL.nil ?_
   change AW _ _ _ _ _
   refine AW.seq ?_
   refine AW.region ?_
   refine AL.r (rd_bin rfl rfl rfl (fun _ => rfl)) ?_
   refine AL.nil ?_
   change AW _ _ _ _ _
   refine AW.seq ?_
   refine AW.cond_t rfl ?_
   refine AW.skip ?_
   change AW _ _ _ _ _
   refine AW.seq ?_
   refine AW.block ?_
   refine AW.seq ?_
   refine AW.region ?_
   refine AL.r (rd_index_ag (i := 1) rfl ar_112 ag_50 rfl rfl (by first | rfl | omega) (by decide) rfl) ?_
   refine AL.ra ?_
   refine AL.nil ?_
   change AW _ _ _ _ _
   refine AW.seq ?_
   refine AW.region ?_
   refine AL.rm ?_
   refine AL.r (rd_len_owM rfl el_50 rfl rfl) ?_
   refine AL.rm ?_
   refine AL.nil ?_
   change AW _ _ _ _ _
   refine AW.block ?_
   refine AW.loopM (ι := Nat × Int) [7, 21, 22, 23, 24, 25, 26, 27, 28] (fun ⟨j, c⟩ => [(20, AI (j : Int)), (3, AI c)]) [7] (fun ⟨j, c⟩ => []) (fun ⟨j, c⟩ => j ≤ (p 1).length ∧ c = (accP p 1 j).foldl stepT 0) (fun ⟨j, c⟩ => (p 1).length - j) ⟨0, c⟩ (⟨Nat.zero_le _, by first | rfl | (rw [acc_end (j := j) (by omega)]; exact hJ.2)⟩) (by simp only [anys, upds, offs, List.set_cons_zero, List.set_cons_succ]; repeat (first | exact Wk.nil | refine Wk.same ?_ | refine Wk.any ?_)) (by simp only [anys, upds, offs, List.set_cons_zero, List.set_cons_succ]; repeat (first | exact Sk.nil _ | refine Sk.same _ ?_ | refine Sk.scr _ (by decide) ?_)) ?_
   rintro ⟨j, c⟩ gs hJ
   refine AW.norm (by simp only [anys, upds, offs, List.set_cons_zero, List.set_cons_succ]; rfl) (by (try simp only [anys, upds, offs, List.set_cons_zero, List.set_cons_succ]); (try rfl)) ?_
   refine AW.seq ?_
   refine AW.region ?_
   refine AL.r (rd_bin rfl rfl rfl (fun _ => rfl)) ?_
   refine AL.nil ?_
   change AW _ _ _ _ _
   refine AW.seq ?_
   refine AW.cd rfl (fun h21 => ?_) (fun h21 => ?_)
   ·skip
    refine AW.skip ?_
    change AW _ _ _ _ _
    refine AW.seq ?_
    refine AW.block ?_
    refine AW.seq ?_
    refine AW.region ?_
    refine AL.r (rd_iaddr_owM rfl el_50 rfl rfl rfl rfl (by simp only [List.length_map]; omega)) ?_
    refine AL.r (rd_loadN_boM _ rfl ag_47 rfl rfl rfl rfl (get_mapA (by omega))) ?_
    dsimp only [OpD.cs]
    refine AL.op rfl (AOpB.op (op_alloc 7 rfl ze_47 rfl ?_))
    refine AL.no ?_
    refine AL.op rfl (op_store_ rfl rfl rfl rfl rfl sz_47 ?_)
    refine AL.no ?_
    refine AL.nil ?_
    change AW _ _ _ _ _
    refine AW.region ?_
    refine AL.rm ?_
    refine AL.r (rd_faddr_bx rfl fo_47_2 rfl rfl ⟨_, _, rfl⟩) ?_
    refine AL.r (rd_load_bx rfl ag_2 rfl rfl rfl) ?_
    refine AL.r (rd_max rfl rfl rfl (show _ = stepT c ((p 1)[j]'(by omega)) from rfl)) ?_
    refine AL.ra ?_
    refine AL.nil ?_
    change AW _ _ _ _ _
    refine AW.region ?_
    refine AL.r (rd_arith_add rfl rfl rfl (by first | exact IntWalk.i64_in _ (by omega) | rfl)) ?_
    refine AL.rm ?_
    refine AL.nil ?_
    refine ⟨⟨j + 1, stepT c ((p 1)[j]'(by omega))⟩, ?_, by first | omega | (simp only []; omega), ?_, ?_⟩
    ·exact ⟨by omega, by rw [clock_next (h := by omega), ← hJ.2]⟩
    ·simp only [anys, upds, offs, List.set_cons_zero, List.set_cons_succ]; repeat (first | exact Wk.nil | refine Wk.same ?_ | refine Wk.any ?_)
    ·simp only [anys, upds, offs, List.set_cons_zero, List.set_cons_succ]; repeat (first | exact Sk.nil _ | refine Sk.same _ ?_ | refine Sk.scr _ (by decide) ?_)
   ·skip
    refine AW.exit ?_
    change AW _ _ _ _ _
    refine AW.region ?_
    refine AL.r (rd_arith_add rfl rfl rfl (rfl : _ = (2 : Int))) ?_
    refine AL.rm ?_
    refine AL.nil ?_
    change AW _ _ _ _ _
    refine AW.seq ?_
    refine AW.region ?_
    refine AL.r (rd_bin rfl rfl rfl (fun _ => rfl)) ?_
    refine AL.nil ?_
    change AW _ _ _ _ _
    refine AW.seq ?_
    refine AW.cond_t rfl ?_
    refine AW.skip ?_
    change AW _ _ _ _ _
    refine AW.seq ?_
    refine AW.block ?_
    refine AW.seq ?_
    refine AW.region ?_
    refine AL.r (rd_index_ag (i := 2) rfl ar_112 ag_50 rfl rfl (by first | rfl | omega) (by decide) rfl) ?_
    refine AL.ra ?_
    refine AL.nil ?_
    change AW _ _ _ _ _
    refine AW.seq ?_
    refine AW.region ?_
    refine AL.rm ?_
    refine AL.r (rd_len_owM rfl el_50 rfl rfl) ?_
    refine AL.rm ?_
    refine AL.nil ?_
    change AW _ _ _ _ _
    refine AW.block ?_
    refine AW.loopM (ι := Nat × Int) [7, 21, 22, 23, 24, 25, 26, 27, 28] (fun ⟨j, c⟩ => [(20, AI (j : Int)), (3, AI c)]) [7] (fun ⟨j, c⟩ => []) (fun ⟨j, c⟩ => j ≤ (p 2).length ∧ c = (accP p 2 j).foldl stepT 0) (fun ⟨j, c⟩ => (p 2).length - j) ⟨0, c⟩ (⟨Nat.zero_le _, by first | rfl | (rw [acc_end (j := j) (by omega)]; exact hJ.2)⟩) (by simp only [anys, upds, offs, List.set_cons_zero, List.set_cons_succ]; repeat (first | exact Wk.nil | refine Wk.same ?_ | refine Wk.any ?_)) (by simp only [anys, upds, offs, List.set_cons_zero, List.set_cons_succ]; repeat (first | exact Sk.nil _ | refine Sk.same _ ?_ | refine Sk.scr _ (by decide) ?_)) ?_
    rintro ⟨j, c⟩ gs hJ
    refine AW.norm (by simp only [anys, upds, offs, List.set_cons_zero, List.set_cons_succ]; rfl) (by (try simp only [anys, upds, offs, List.set_cons_zero, List.set_cons_succ]); (try rfl)) ?_
    refine AW.seq ?_
    refine AW.region ?_
    refine AL.r (rd_bin rfl rfl rfl (fun _ => rfl)) ?_
    refine AL.nil ?_
    change AW _ _ _ _ _
    refine AW.seq ?_
    refine AW.cd rfl (fun h21 => ?_) (fun h21 => ?_)
    ·skip
     refine AW.skip ?_
     change AW _ _ _ _ _
     refine AW.seq ?_
     refine AW.block ?_
     refine AW.seq ?_
     refine AW.region ?_
     refine AL.r (rd_iaddr_owM rfl el_50 rfl rfl rfl rfl (by simp only [List.length_map]; omega)) ?_
     refine AL.r (rd_loadN_boM _ rfl ag_47 rfl rfl rfl rfl (get_mapA (by omega))) ?_
     dsimp only [OpD.cs]
     refine AL.op rfl (AOpB.op (op_alloc 7 rfl ze_47 rfl ?_))
     refine AL.no ?_
     refine AL.op rfl (op_store_ rfl rfl rfl rfl rfl sz_47 ?_)
     refine AL.no ?_
     refine AL.nil ?_
     change AW _ _ _ _ _
     refine AW.region ?_
     refine AL.rm ?_
     refine AL.r (rd_faddr_bx rfl fo_47_2 rfl rfl ⟨_, _, rfl⟩) ?_
     refine AL.r (rd_load_bx rfl ag_2 rfl rfl rfl) ?_
     refine AL.r (rd_max rfl rfl rfl (show _ = stepT c ((p 2)[j]'(by omega)) from rfl)) ?_
     refine AL.ra ?_
     refine AL.nil ?_
     change AW _ _ _ _ _
     refine AW.region ?_
     refine AL.r (rd_arith_add rfl rfl rfl (by first | exact IntWalk.i64_in _ (by omega) | rfl)) ?_
     refine AL.rm ?_
     refine AL.nil ?_
     refine ⟨⟨j + 1, stepT c ((p 2)[j]'(by omega))⟩, ?_, by first | omega | (simp only []; omega), ?_, ?_⟩
     ·exact ⟨by omega, by rw [clock_next (h := by omega), ← hJ.2]⟩
     ·simp only [anys, upds, offs, List.set_cons_zero, List.set_cons_succ]; repeat (first | exact Wk.nil | refine Wk.same ?_ | refine Wk.any ?_)
     ·simp only [anys, upds, offs, List.set_cons_zero, List.set_cons_succ]; repeat (first | exact Sk.nil _ | refine Sk.same _ ?_ | refine Sk.scr _ (by decide) ?_)
    ·skip
     refine AW.exit ?_
     change AW _ _ _ _ _
     refine AW.region ?_
     refine AL.r (rd_arith_add rfl rfl rfl (rfl : _ = (3 : Int))) ?_
     refine AL.rm ?_
     refine AL.nil ?_
     change AW _ _ _ _ _
     refine AW.seq ?_
     refine AW.region ?_
     refine AL.r (rd_bin rfl rfl rfl (fun _ => rfl)) ?_
     refine AL.nil ?_
     change AW _ _ _ _ _
     refine AW.seq ?_
     refine AW.cond_t rfl ?_
     refine AW.skip ?_
     change AW _ _ _ _ _
     refine AW.seq ?_
     refine AW.block ?_
     refine AW.seq ?_
     refine AW.region ?_
     refine AL.r (rd_index_ag (i := 3) rfl ar_112 ag_50 rfl rfl (by first | rfl | omega) (by decide) rfl) ?_
     refine AL.ra ?_
     refine AL.nil ?_
     change AW _ _ _ _ _
     refine AW.seq ?_
     refine AW.region ?_
     refine AL.rm ?_
     refine AL.r (rd_len_owM rfl el_50 rfl rfl) ?_
     refine AL.rm ?_
     refine AL.nil ?_
     change AW _ _ _ _ _
     refine AW.block ?_
     refine AW.loopM (ι := Nat × Int) [7, 21, 22, 23, 24, 25, 26, 27, 28] (fun ⟨j, c⟩ => [(20, AI (j : Int)), (3, AI c)]) [7] (fun ⟨j, c⟩ => []) (fun ⟨j, c⟩ => j ≤ (p 3).length ∧ c = (accP p 3 j).foldl stepT 0) (fun ⟨j, c⟩ => (p 3).length - j) ⟨0, c⟩ (⟨Nat.zero_le _, by first | rfl | (rw [acc_end (j := j) (by omega)]; exact hJ.2)⟩) (by simp only [anys, upds, offs, List.set_cons_zero, List.set_cons_succ]; repeat (first | exact Wk.nil | refine Wk.same ?_ | refine Wk.any ?_)) (by simp only [anys, upds, offs, List.set_cons_zero, List.set_cons_succ]; repeat (first | exact Sk.nil _ | refine Sk.same _ ?_ | refine Sk.scr _ (by decide) ?_)) ?_
     rintro ⟨j, c⟩ gs hJ
     refine AW.norm (by simp only [anys, upds, offs, List.set_cons_zero, List.set_cons_succ]; rfl) (by (try simp only [anys, upds, offs, List.set_cons_zero, List.set_cons_succ]); (try rfl)) ?_
     refine AW.seq ?_
     refine AW.region ?_
     refine AL.r (rd_bin rfl rfl rfl (fun _ => rfl)) ?_
     refine AL.nil ?_
     change AW _ _ _ _ _
     refine AW.seq ?_
     refine AW.cd rfl (fun h21 => ?_) (fun h21 => ?_)
     ·skip
      refine AW.skip ?_
      change AW _ _ _ _ _
      refine AW.seq ?_
      refine AW.block ?_
      refine AW.seq ?_
      refine AW.region ?_
      refine AL.r (rd_iaddr_owM rfl el_50 rfl rfl rfl rfl (by simp only [List.length_map]; omega)) ?_
      refine AL.r (rd_loadN_boM _ rfl ag_47 rfl rfl rfl rfl (get_mapA (by omega))) ?_
      dsimp only [OpD.cs]
      refine AL.op rfl (AOpB.op (op_alloc 7 rfl ze_47 rfl ?_))
      refine AL.no ?_
      refine AL.op rfl (op_store_ rfl rfl rfl rfl rfl sz_47 ?_)
      refine AL.no ?_
      refine AL.nil ?_
      change AW _ _ _ _ _
      refine AW.region ?_
      refine AL.rm ?_
      refine AL.r (rd_faddr_bx rfl fo_47_2 rfl rfl ⟨_, _, rfl⟩) ?_
      refine AL.r (rd_load_bx rfl ag_2 rfl rfl rfl) ?_
      refine AL.r (rd_max rfl rfl rfl (show _ = stepT c ((p 3)[j]'(by omega)) from rfl)) ?_
      refine AL.ra ?_
      refine AL.nil ?_
      change AW _ _ _ _ _
      refine AW.region ?_
      refine AL.r (rd_arith_add rfl rfl rfl (by first | exact IntWalk.i64_in _ (by omega) | rfl)) ?_
      refine AL.rm ?_
      refine AL.nil ?_
      refine ⟨⟨j + 1, stepT c ((p 3)[j]'(by omega))⟩, ?_, by first | omega | (simp only []; omega), ?_, ?_⟩
      ·exact ⟨by omega, by rw [clock_next (h := by omega), ← hJ.2]⟩
      ·simp only [anys, upds, offs, List.set_cons_zero, List.set_cons_succ]; repeat (first | exact Wk.nil | refine Wk.same ?_ | refine Wk.any ?_)
      ·simp only [anys, upds, offs, List.set_cons_zero, List.set_cons_succ]; repeat (first | exact Sk.nil _ | refine Sk.same _ ?_ | refine Sk.scr _ (by decide) ?_)
     ·skip
      refine AW.exit ?_
      change AW _ _ _ _ _
      refine AW.region ?_
      refine AL.r (rd_arith_add rfl rfl rfl (rfl : _ = (4 : Int))) ?_
      refine AL.rm ?_
      refine AL.nil ?_
      change AW _ _ _ _ _
      refine AW.seq ?_
      refine AW.region ?_
      refine AL.r (rd_bin rfl rfl rfl (fun _ => rfl)) ?_
      refine AL.nil ?_
      change AW _ _ _ _ _
      refine AW.seq ?_
      refine AW.cond_t rfl ?_
      refine AW.skip ?_
      change AW _ _ _ _ _
      refine AW.seq ?_
      refine AW.block ?_
      refine AW.seq ?_
      refine AW.region ?_
      refine AL.r (rd_index_ag (i := 4) rfl ar_112 ag_50 rfl rfl (by first | rfl | omega) (by decide) rfl) ?_
      refine AL.ra ?_
      refine AL.nil ?_
      change AW _ _ _ _ _
      refine AW.seq ?_
      refine AW.region ?_
      refine AL.rm ?_
      refine AL.r (rd_len_owM rfl el_50 rfl rfl) ?_
      refine AL.rm ?_
      refine AL.nil ?_
      change AW _ _ _ _ _
      refine AW.block ?_
      refine AW.loopM (ι := Nat × Int) [7, 21, 22, 23, 24, 25, 26, 27, 28] (fun ⟨j, c⟩ => [(20, AI (j : Int)), (3, AI c)]) [7] (fun ⟨j, c⟩ => []) (fun ⟨j, c⟩ => j ≤ (p 4).length ∧ c = (accP p 4 j).foldl stepT 0) (fun ⟨j, c⟩ => (p 4).length - j) ⟨0, c⟩ (⟨Nat.zero_le _, by first | rfl | (rw [acc_end (j := j) (by omega)]; exact hJ.2)⟩) (by simp only [anys, upds, offs, List.set_cons_zero, List.set_cons_succ]; repeat (first | exact Wk.nil | refine Wk.same ?_ | refine Wk.any ?_)) (by simp only [anys, upds, offs, List.set_cons_zero, List.set_cons_succ]; repeat (first | exact Sk.nil _ | refine Sk.same _ ?_ | refine Sk.scr _ (by decide) ?_)) ?_
      rintro ⟨j, c⟩ gs hJ
      refine AW.norm (by simp only [anys, upds, offs, List.set_cons_zero, List.set_cons_succ]; rfl) (by (try simp only [anys, upds, offs, List.set_cons_zero, List.set_cons_succ]); (try rfl)) ?_
      refine AW.seq ?_
      refine AW.region ?_
      refine AL.r (rd_bin rfl rfl rfl (fun _ => rfl)) ?_
      refine AL.nil ?_
      change AW _ _ _ _ _
      refine AW.seq ?_
      refine AW.cd rfl (fun h21 => ?_) (fun h21 => ?_)
      ·skip
       refine AW.skip ?_
       change AW _ _ _ _ _
       refine AW.seq ?_
       refine AW.block ?_
       refine AW.seq ?_
       refine AW.region ?_
       refine AL.r (rd_iaddr_owM rfl el_50 rfl rfl rfl rfl (by simp only [List.length_map]; omega)) ?_
       refine AL.r (rd_loadN_boM _ rfl ag_47 rfl rfl rfl rfl (get_mapA (by omega))) ?_
       dsimp only [OpD.cs]
       refine AL.op rfl (AOpB.op (op_alloc 7 rfl ze_47 rfl ?_))
       refine AL.no ?_
       refine AL.op rfl (op_store_ rfl rfl rfl rfl rfl sz_47 ?_)
       refine AL.no ?_
       refine AL.nil ?_
       change AW _ _ _ _ _
       refine AW.region ?_
       refine AL.rm ?_
       refine AL.r (rd_faddr_bx rfl fo_47_2 rfl rfl ⟨_, _, rfl⟩) ?_
       refine AL.r (rd_load_bx rfl ag_2 rfl rfl rfl) ?_
       refine AL.r (rd_max rfl rfl rfl (show _ = stepT c ((p 4)[j]'(by omega)) from rfl)) ?_
       refine AL.ra ?_
       refine AL.nil ?_
       change AW _ _ _ _ _
       refine AW.region ?_
       refine AL.r (rd_arith_add rfl rfl rfl (by first | exact IntWalk.i64_in _ (by omega) | rfl)) ?_
       refine AL.rm ?_
       refine AL.nil ?_
       refine ⟨⟨j + 1, stepT c ((p 4)[j]'(by omega))⟩, ?_, by first | omega | (simp only []; omega), ?_, ?_⟩
       ·exact ⟨by omega, by rw [clock_next (h := by omega), ← hJ.2]⟩
       ·simp only [anys, upds, offs, List.set_cons_zero, List.set_cons_succ]; repeat (first | exact Wk.nil | refine Wk.same ?_ | refine Wk.any ?_)
       ·simp only [anys, upds, offs, List.set_cons_zero, List.set_cons_succ]; repeat (first | exact Sk.nil _ | refine Sk.same _ ?_ | refine Sk.scr _ (by decide) ?_)
      ·skip
       refine AW.exit ?_
       change AW _ _ _ _ _
       refine AW.region ?_
       refine AL.r (rd_arith_add rfl rfl rfl (rfl : _ = (5 : Int))) ?_
       refine AL.rm ?_
       refine AL.nil ?_
       change AW _ _ _ _ _
       refine AW.seq ?_
       refine AW.region ?_
       refine AL.r (rd_bin rfl rfl rfl (fun _ => rfl)) ?_
       refine AL.nil ?_
       change AW _ _ _ _ _
       refine AW.seq ?_
       refine AW.cond_t rfl ?_
       refine AW.skip ?_
       change AW _ _ _ _ _
       refine AW.seq ?_
       refine AW.block ?_
       refine AW.seq ?_
       refine AW.region ?_
       refine AL.r (rd_index_ag (i := 5) rfl ar_112 ag_50 rfl rfl (by first | rfl | omega) (by decide) rfl) ?_
       refine AL.ra ?_
       refine AL.nil ?_
       change AW _ _ _ _ _
       refine AW.seq ?_
       refine AW.region ?_
       refine AL.rm ?_
       refine AL.r (rd_len_owM rfl el_50 rfl rfl) ?_
       refine AL.rm ?_
       refine AL.nil ?_
       change AW _ _ _ _ _
       refine AW.block ?_
       refine AW.loopM (ι := Nat × Int) [7, 21, 22, 23, 24, 25, 26, 27, 28] (fun ⟨j, c⟩ => [(20, AI (j : Int)), (3, AI c)]) [7] (fun ⟨j, c⟩ => []) (fun ⟨j, c⟩ => j ≤ (p 5).length ∧ c = (accP p 5 j).foldl stepT 0) (fun ⟨j, c⟩ => (p 5).length - j) ⟨0, c⟩ (⟨Nat.zero_le _, by first | rfl | (rw [acc_end (j := j) (by omega)]; exact hJ.2)⟩) (by simp only [anys, upds, offs, List.set_cons_zero, List.set_cons_succ]; repeat (first | exact Wk.nil | refine Wk.same ?_ | refine Wk.any ?_)) (by simp only [anys, upds, offs, List.set_cons_zero, List.set_cons_succ]; repeat (first | exact Sk.nil _ | refine Sk.same _ ?_ | refine Sk.scr _ (by decide) ?_)) ?_
       rintro ⟨j, c⟩ gs hJ
       refine AW.norm (by simp only [anys, upds, offs, List.set_cons_zero, List.set_cons_succ]; rfl) (by (try simp only [anys, upds, offs, List.set_cons_zero, List.set_cons_succ]); (try rfl)) ?_
       refine AW.seq ?_
       refine AW.region ?_
       refine AL.r (rd_bin rfl rfl rfl (fun _ => rfl)) ?_
       refine AL.nil ?_
       change AW _ _ _ _ _
       refine AW.seq ?_
       refine AW.cd rfl (fun h21 => ?_) (fun h21 => ?_)
       ·skip
        refine AW.skip ?_
        change AW _ _ _ _ _
        refine AW.seq ?_
        refine AW.block ?_
        refine AW.seq ?_
        refine AW.region ?_
        refine AL.r (rd_iaddr_owM rfl el_50 rfl rfl rfl rfl (by simp only [List.length_map]; omega)) ?_
        refine AL.r (rd_loadN_boM _ rfl ag_47 rfl rfl rfl rfl (get_mapA (by omega))) ?_
        dsimp only [OpD.cs]
        refine AL.op rfl (AOpB.op (op_alloc 7 rfl ze_47 rfl ?_))
        refine AL.no ?_
        refine AL.op rfl (op_store_ rfl rfl rfl rfl rfl sz_47 ?_)
        refine AL.no ?_
        refine AL.nil ?_
        change AW _ _ _ _ _
        refine AW.region ?_
        refine AL.rm ?_
        refine AL.r (rd_faddr_bx rfl fo_47_2 rfl rfl ⟨_, _, rfl⟩) ?_
        refine AL.r (rd_load_bx rfl ag_2 rfl rfl rfl) ?_
        refine AL.r (rd_max rfl rfl rfl (show _ = stepT c ((p 5)[j]'(by omega)) from rfl)) ?_
        refine AL.ra ?_
        refine AL.nil ?_
        change AW _ _ _ _ _
        refine AW.region ?_
        refine AL.r (rd_arith_add rfl rfl rfl (by first | exact IntWalk.i64_in _ (by omega) | rfl)) ?_
        refine AL.rm ?_
        refine AL.nil ?_
        refine ⟨⟨j + 1, stepT c ((p 5)[j]'(by omega))⟩, ?_, by first | omega | (simp only []; omega), ?_, ?_⟩
        ·exact ⟨by omega, by rw [clock_next (h := by omega), ← hJ.2]⟩
        ·simp only [anys, upds, offs, List.set_cons_zero, List.set_cons_succ]; repeat (first | exact Wk.nil | refine Wk.same ?_ | refine Wk.any ?_)
        ·simp only [anys, upds, offs, List.set_cons_zero, List.set_cons_succ]; repeat (first | exact Sk.nil _ | refine Sk.same _ ?_ | refine Sk.scr _ (by decide) ?_)
       ·skip
        refine AW.exit ?_
        change AW _ _ _ _ _
        refine AW.region ?_
        refine AL.r (rd_arith_add rfl rfl rfl (rfl : _ = (6 : Int))) ?_
        refine AL.rm ?_
        refine AL.nil ?_
        change AW _ _ _ _ _
        refine AW.seq ?_
        refine AW.region ?_
        refine AL.r (rd_bin rfl rfl rfl (fun _ => rfl)) ?_
        refine AL.nil ?_
        change AW _ _ _ _ _
        refine AW.seq ?_
        refine AW.cond_f rfl ?_
        refine AW.exit ?_
        change AW _ _ _ _ _
        refine AW.seq ?_
        refine AW.region ?_
        refine AL.rm ?_
        refine AL.ra ?_
        refine AL.nil ?_
        change AW _ _ _ _ _
        refine AW.ret ?_
        repeat with_reducible first | refine thenA_ret ?_ | refine inBlockA_ret ?_
        with_reducible first | refine retO_ret ?_ | refine retO_normal ?_
        refine reso1P rfl (ResV.tmp rfl) rfl ?_
        exact ⟨congrArg AI (by rw [clock_end (j := j) (by omega)]; exact hJ.2), rfl⟩
end
end Go.Proofs.Ytfjnkhanndkpfaa
