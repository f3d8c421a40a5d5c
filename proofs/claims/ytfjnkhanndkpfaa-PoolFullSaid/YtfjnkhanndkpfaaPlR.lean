/- The document's pool: a list of ops, walked over abstract states. No conditions. -/
import Derived.Test.YtfjnkhanndkpfaaPlD
namespace Go.Proofs.Ytfjnkhanndkpfaa
set_option linter.unusedSimpArgs false
set_option linter.unusedVariables false
set_option maxRecDepth 100000
set_option maxRecDepth 100000
open Go.RowKit

theorem rstags_c (l m : List TagD) : AC Try.prog 86 [.sl (l.map TagD.cs), .sl (m.map TagD.cs)] (fun x => x = .s (AB (decide (l = m)))) := by
  refine AC.of' 24 0 Try.func86 rfl ?_
  change AW _ _ _ _ []
  refine AW.seq ?_
  refine AW.region ?_
  refine AL.ra ?_
  refine AL.nil ?_
  change AW _ _ _ _ _
  refine AW.seq ?_
  refine AW.seq ?_
  refine AW.region ?_
  refine AL.len (x := .tmp 0) rfl (fun hlen => ?_); rw [List.length_map] at hlen; unfold maxLen at hlen
  refine AL.rm ?_
  refine AL.r (rd_len_sl rfl el_45 rfl) ?_
  refine AL.rm ?_
  refine AL.r (rd_len_sl rfl el_45 rfl) ?_
  refine AL.r (rd_bin rfl rfl rfl (fun _ => rfl)) ?_
  refine AL.nil ?_
  change AW _ _ _ _ _
  refine AW.cd rfl (fun h10 => ?_) (fun h10 => ?_)
  ·skip
   refine AW.seq ?_
   refine AW.region ?_
   refine AL.ra ?_
   refine AL.nil ?_
   change AW _ _ _ _ _
   refine AW.ret ?_
   change ResA _ _ _ _ _
   refine res1 rfl (ResV.tmp rfl) rfl ?_
   (first | (rw [decide_eq_false (fun e => by subst e; simp_all)]; done) | (rw [decide_eq_true (by rw [List.take_of_length_le (by omega), List.take_of_length_le (by omega)] at hok; exact hok)]; done) | grind)
  ·skip
   refine AW.skip ?_
   change AW _ _ _ _ _
   refine AW.seq ?_
   refine AW.seq ?_
   refine AW.region ?_
   refine AL.ra ?_
   refine AL.nil ?_
   change AW _ _ _ _ _
   refine AW.block ?_
   refine AW.loopM (ι := Nat) [4, 11, 12, 13, 14, 15, 16, 17, 18, 19, 20, 21, 22, 23, 24, 25] (fun k => [(5, AI (k : Int))]) [] (fun k => []) (fun k => k ≤ l.length ∧ l.take k = m.take k) (fun k => l.length - k) 0 (⟨by omega, rfl⟩) (by simp only [anys, upds, offs, List.set_cons_zero, List.set_cons_succ]; repeat (first | exact Wk.nil | refine Wk.same ?_ | refine Wk.any ?_)) (by simp only [anys, upds, offs, List.set_cons_zero, List.set_cons_succ]; repeat (first | exact Sk.nil _ | refine Sk.same _ ?_ | refine Sk.scr _ (by decide) ?_)) ?_
   rintro k gs hJ
   refine AW.norm (by simp only [anys, upds, offs, List.set_cons_zero, List.set_cons_succ]; rfl) (by (try simp only [anys, upds, offs, List.set_cons_zero, List.set_cons_succ]); (try rfl)) ?_
   obtain ⟨hk, hok⟩ := hJ
   refine AW.seq ?_
   refine AW.seq ?_
   refine AW.region ?_
   refine AL.rm ?_
   refine AL.rm ?_
   refine AL.r (rd_len_sl rfl el_45 rfl) ?_
   refine AL.r (rd_bin rfl rfl rfl (fun _ => rfl)) ?_
   refine AL.nil ?_
   change AW _ _ _ _ _
   refine AW.cd rfl (fun h14 => ?_) (fun h14 => ?_)
   ·skip
    refine AW.skip ?_
    change AW _ _ _ _ _
    refine AW.seq ?_
    refine AW.block ?_
    refine AW.seq ?_
    refine AW.draw (by kernel_rfl) ?_
    refine AD.r 0 rfl (rd_move rfl rfl) rfl ?_
    refine AD.r 1 rfl (rd_move rfl rfl) rfl ?_
    refine AD.r 2 rfl (rd_iaddr_sl rfl el_45 rfl rfl rfl (get_mapA (by omega)) rfl) rfl ?_
    refine AD.r 3 rfl (rd_loadN_ep rfl ag_44 rfl (Nat.le_of_ble_eq_true rfl) rfl) rfl ?_
    refine AD.r 4 rfl (rd_move rfl rfl) rfl ?_
    refine AD.r 5 rfl (rd_move rfl rfl) rfl ?_
    refine AD.r 6 rfl (rd_iaddr_sl rfl el_45 rfl rfl rfl (get_mapA (by omega)) rfl) rfl ?_
    refine AD.r 7 rfl (rd_loadN_ep rfl ag_44 rfl (Nat.le_of_ble_eq_true rfl) rfl) rfl ?_
    refine AD.r 8 rfl (rd_ne_Tag rfl rfl rfl) rfl ?_
    refine AD.done (by kernel_rfl) ?_
    change AW _ _ _ _ _
    refine AW.cd rfl (fun h25 => ?_) (fun h25 => ?_)
    ·skip
     refine AW.seq ?_
     refine AW.region ?_
     refine AL.ra ?_
     refine AL.nil ?_
     change AW _ _ _ _ _
     refine AW.ret ?_
     change ResA _ _ _ _ _
     refine res1 rfl (ResV.tmp rfl) rfl ?_
     (first | (rw [decide_eq_false (fun e => by subst e; simp_all)]; done) | (rw [decide_eq_true (by rw [List.take_of_length_le (by omega), List.take_of_length_le (by omega)] at hok; exact hok)]; done) | grind)
    ·skip
     refine AW.skip ?_
     change AW _ _ _ _ _
     refine AW.region ?_
     refine AL.rm ?_
     refine AL.r (rd_arith_add rfl rfl rfl (by first | exact IntWalk.i64_in _ (by omega) | rfl)) ?_
     refine AL.ra ?_
     refine AL.nil ?_
     refine ⟨k + 1, ?_, by first | omega | (simp only []; omega), ?_, ?_⟩
     ·exact ⟨by omega, take_eq_next (by omega) (by omega) hok (by grind [tagD_iff])⟩
     ·simp only [anys, upds, offs, List.set_cons_zero, List.set_cons_succ]; repeat (first | exact Wk.nil | refine Wk.same ?_ | refine Wk.any ?_)
     ·simp only [anys, upds, offs, List.set_cons_zero, List.set_cons_succ]; repeat (first | exact Sk.nil _ | refine Sk.same _ ?_ | refine Sk.scr _ (by decide) ?_)
   ·skip
    refine AW.exit ?_
    change AW _ _ _ _ _
    refine AW.seq ?_
    refine AW.region ?_
    refine AL.ra ?_
    refine AL.nil ?_
    change AW _ _ _ _ _
    refine AW.ret ?_
    change ResA _ _ _ _ _
    refine res1 rfl (ResV.tmp rfl) rfl ?_
    (first | (rw [decide_eq_false (fun e => by subst e; simp_all)]; done) | (rw [decide_eq_true (by rw [List.take_of_length_le (by omega), List.take_of_length_le (by omega)] at hok; exact hok)]; done) | grind)
theorem rsameo_c (a b : OpD) : AC Try.prog 39 [a.av, b.av] (fun r => r = .s (AB (decide (a = b)))) := by
  refine AC.of' 78 2 Try.func39 rfl ?_
  change AW _ _ _ _ [TK.mk 0 .off, TK.mk 0 .off]
  refine AW.seq ?_
  refine AW.region ?_
  refine AL.op rfl (AOpB.op (op_box 0 rfl rfl rfl rfl rfl ?_))
  refine AL.n ?_
  refine AL.op rfl (AOpB.op (op_box 1 rfl rfl rfl rfl rfl ?_))
  refine AL.n ?_
  refine AL.ra ?_
  refine AL.nil ?_
  change AW _ _ _ _ _
  refine AW.seq ?_
  refine AW.region ?_
  refine AL.r (rd_faddr_bx rfl fo_47_0 rfl rfl ⟨_, _, rfl⟩) ?_
  refine AL.r (rd_loadN_bx rfl ag_44 rfl rfl (Nat.le_of_ble_eq_true rfl) rfl) ?_
  refine AL.r (rd_faddr_bx rfl fo_47_0 rfl rfl ⟨_, _, rfl⟩) ?_
  refine AL.r (rd_loadN_bx rfl ag_44 rfl rfl (Nat.le_of_ble_eq_true rfl) rfl) ?_
  refine AL.r (rd_eq_Tag rfl rfl rfl) ?_
  refine AL.rm ?_
  refine AL.fk (d := 10) rfl (fun h10 => ?_) (fun h10 => ?_)
  ·skip
   refine AL.n ?_
   refine AL.ro (rd_faddr_bx rfl fo_47_1 rfl rfl ⟨_, _, rfl⟩) ?_
   refine AL.ro (rd_loadN_bx rfl ag_44 rfl rfl (Nat.le_of_ble_eq_true rfl) rfl) ?_
   refine AL.ro (rd_faddr_bx rfl fo_47_1 rfl rfl ⟨_, _, rfl⟩) ?_
   refine AL.ro (rd_loadN_bx rfl ag_44 rfl rfl (Nat.le_of_ble_eq_true rfl) rfl) ?_
   refine AL.ro (rd_eq_Tag rfl rfl rfl) ?_
   refine AL.r (rd_pick_t rfl rfl rfl) ?_
   refine AL.rm ?_
   refine AL.fk (d := 17) rfl (fun h17 => ?_) (fun h17 => ?_)
   ·skip
    refine AL.n ?_
    refine AL.ro (rd_faddr_bx rfl fo_47_2 rfl rfl ⟨_, _, rfl⟩) ?_
    refine AL.ro (rd_load_bx rfl ag_2 rfl rfl rfl) ?_
    refine AL.ro (rd_faddr_bx rfl fo_47_2 rfl rfl ⟨_, _, rfl⟩) ?_
    refine AL.ro (rd_load_bx rfl ag_2 rfl rfl rfl) ?_
    refine AL.ro (rd_bin rfl rfl rfl (fun _ => rfl)) ?_
    refine AL.r (rd_pick_t rfl rfl rfl) ?_
    refine AL.rm ?_
    refine AL.fk (d := 24) rfl (fun h24 => ?_) (fun h24 => ?_)
    ·skip
     refine AL.n ?_
     refine AL.ro (rd_faddr_bx rfl fo_47_3 rfl rfl ⟨_, _, rfl⟩) ?_
     refine AL.ro (rd_load_bx rfl ag_9 rfl rfl rfl) ?_
     refine AL.ro (rd_faddr_bx rfl fo_47_3 rfl rfl ⟨_, _, rfl⟩) ?_
     refine AL.ro (rd_load_bx rfl ag_9 rfl rfl rfl) ?_
     refine AL.ro (rd_seq rfl rfl rfl) ?_
     refine AL.r (rd_pick_t rfl rfl rfl) ?_
     refine AL.rm ?_
     refine AL.fk (d := 31) rfl (fun h31 => ?_) (fun h31 => ?_)
     ·skip
      refine AL.n ?_
      refine AL.ro (rd_faddr_bx rfl fo_47_4 rfl rfl ⟨_, _, rfl⟩) ?_
      refine AL.ro (rd_load_bx rfl ag_3 rfl rfl rfl) ?_
      refine AL.ro (rd_faddr_bx rfl fo_47_4 rfl rfl ⟨_, _, rfl⟩) ?_
      refine AL.ro (rd_load_bx rfl ag_3 rfl rfl rfl) ?_
      refine AL.ro (rd_bin rfl rfl rfl (fun _ => rfl)) ?_
      refine AL.r (rd_pick_t rfl rfl rfl) ?_
      refine AL.rm ?_
      refine AL.fk (d := 38) rfl (fun h38 => ?_) (fun h38 => ?_)
      ·skip
       refine AL.n ?_
       refine AL.ro (rd_faddr_bx rfl fo_47_5 rfl rfl ⟨_, _, rfl⟩) ?_
       refine AL.ro (rd_load_bx rfl ag_9 rfl rfl rfl) ?_
       refine AL.ro (rd_faddr_bx rfl fo_47_5 rfl rfl ⟨_, _, rfl⟩) ?_
       refine AL.ro (rd_load_bx rfl ag_9 rfl rfl rfl) ?_
       refine AL.ro (rd_seq rfl rfl rfl) ?_
       refine AL.r (rd_pick_t rfl rfl rfl) ?_
       refine AL.rm ?_
       refine AL.fk (d := 45) rfl (fun h45 => ?_) (fun h45 => ?_)
       ·skip
        refine AL.n ?_
        refine AL.ro (rd_faddr_bx rfl fo_47_6 rfl rfl ⟨_, _, rfl⟩) ?_
        refine AL.ro (rd_loadN_bx rfl ag_27 rfl rfl (Nat.le_of_ble_eq_true rfl) rfl) ?_
        refine AL.ro (rd_faddr_bx rfl fo_47_6 rfl rfl ⟨_, _, rfl⟩) ?_
        refine AL.ro (rd_loadN_bx rfl ag_27 rfl rfl (Nat.le_of_ble_eq_true rfl) rfl) ?_
        refine AL.ro (rd_eq_Ref rfl rfl rfl) ?_
        refine AL.r (rd_pick_t rfl rfl rfl) ?_
        refine AL.rm ?_
        refine AL.fk (d := 52) rfl (fun h52 => ?_) (fun h52 => ?_)
        ·skip
         refine AL.n ?_
         refine AL.ro (rd_faddr_bx rfl fo_47_7 rfl rfl ⟨_, _, rfl⟩) ?_
         refine AL.ro (rd_load_bx rfl ag_2 rfl rfl rfl) ?_
         refine AL.ro (rd_faddr_bx rfl fo_47_7 rfl rfl ⟨_, _, rfl⟩) ?_
         refine AL.ro (rd_load_bx rfl ag_2 rfl rfl rfl) ?_
         refine AL.ro (rd_bin rfl rfl rfl (fun _ => rfl)) ?_
         refine AL.r (rd_pick_t rfl rfl rfl) ?_
         refine AL.rm ?_
         refine AL.fk (d := 59) rfl (fun h59 => ?_) (fun h59 => ?_)
         ·skip
          refine AL.n ?_
          refine AL.ro (rd_faddr_bx rfl fo_47_8 rfl rfl ⟨_, _, rfl⟩) ?_
          refine AL.ro (rd_load_bx rfl ag_4 rfl rfl rfl) ?_
          refine AL.ro (rd_faddr_bx rfl fo_47_8 rfl rfl ⟨_, _, rfl⟩) ?_
          refine AL.ro (rd_load_bx rfl ag_4 rfl rfl rfl) ?_
          refine AL.ro (rd_beql rfl bo_4 rfl rfl) ?_
          refine AL.r (rd_pick_t rfl rfl rfl) ?_
          refine AL.rm ?_
          refine AL.fk (d := 66) rfl (fun h66 => ?_) (fun h66 => ?_)
          ·skip
           refine AL.n ?_
           refine AL.ro (rd_faddr_bx rfl fo_47_9 rfl rfl ⟨_, _, rfl⟩) ?_
           refine AL.ro (rd_load_bx rfl ag_9 rfl rfl rfl) ?_
           refine AL.ro (rd_faddr_bx rfl fo_47_9 rfl rfl ⟨_, _, rfl⟩) ?_
           refine AL.ro (rd_load_bx rfl ag_9 rfl rfl rfl) ?_
           refine AL.ro (rd_seq rfl rfl rfl) ?_
           refine AL.r (rd_pick_t rfl rfl rfl) ?_
           refine AL.rm ?_
           refine AL.fk (d := 73) rfl (fun h73 => ?_) (fun h73 => ?_)
           ·skip
            refine AL.n ?_
            refine AL.ro (rd_faddr_bx rfl fo_47_10 rfl rfl ⟨_, _, rfl⟩) ?_
            refine AL.ro (rd_load_bx rfl ag_45 rfl rfl rfl) ?_
            refine AL.ro (rd_faddr_bx rfl fo_47_10 rfl rfl ⟨_, _, rfl⟩) ?_
            refine AL.ro (rd_load_bx rfl ag_45 rfl rfl rfl) ?_
            refine AL.on rfl rfl rfl (AOpB.op (op_call (rstags_c a.drops b.drops) rfl (by kernel_rfl) rfl (none) ?_))
            rintro r rfl
            refine AL.n ?_
            refine AL.r (rd_pick_t rfl rfl rfl) ?_
            refine AL.ra ?_
            refine AL.nil ?_
            change AW _ _ _ _ _
            refine AW.ret ?_
            change ResA _ _ _ _ _
            refine res1 rfl (ResV.tmp rfl) rfl ?_
            (refine congrArg (fun b => RS.s (AB b)) ?_; rw [Bool.eq_iff_iff]; simp_all [opD_iff, tagD_iff, refD_iff] <;> (intros; simp_all))
           ·skip
            refine AL.n ?_
            refine AL.rf ?_
            refine AL.rf ?_
            refine AL.rf ?_
            refine AL.rf ?_
            refine AL.rf ?_
            refine AL.r (rd_pick_f rfl rfl rfl) ?_
            refine AL.ra ?_
            refine AL.nil ?_
            change AW _ _ _ _ _
            refine AW.ret ?_
            change ResA _ _ _ _ _
            refine res1 rfl (ResV.tmp rfl) rfl ?_
            (refine congrArg (fun b => RS.s (AB b)) ?_; rw [Bool.eq_iff_iff]; simp_all [opD_iff, tagD_iff, refD_iff] <;> (intros; simp_all))
          ·skip
           refine AL.n ?_
           refine AL.rf ?_
           refine AL.rf ?_
           refine AL.rf ?_
           refine AL.rf ?_
           refine AL.rf ?_
           refine AL.r (rd_pick_f rfl rfl rfl) ?_
           refine AL.rm ?_
           refine AL.rf ?_
           refine AL.rf ?_
           refine AL.rf ?_
           refine AL.rf ?_
           refine AL.rf ?_
           refine AL.r (rd_pick_f rfl rfl rfl) ?_
           refine AL.ra ?_
           refine AL.nil ?_
           change AW _ _ _ _ _
           refine AW.ret ?_
           change ResA _ _ _ _ _
           refine res1 rfl (ResV.tmp rfl) rfl ?_
           (refine congrArg (fun b => RS.s (AB b)) ?_; rw [Bool.eq_iff_iff]; simp_all [opD_iff, tagD_iff, refD_iff] <;> (intros; simp_all))
         ·skip
          refine AL.n ?_
          refine AL.rf ?_
          refine AL.rf ?_
          refine AL.rf ?_
          refine AL.rf ?_
          refine AL.rf ?_
          refine AL.r (rd_pick_f rfl rfl rfl) ?_
          refine AL.rm ?_
          refine AL.rf ?_
          refine AL.rf ?_
          refine AL.rf ?_
          refine AL.rf ?_
          refine AL.rf ?_
          refine AL.r (rd_pick_f rfl rfl rfl) ?_
          refine AL.rm ?_
          refine AL.rf ?_
          refine AL.rf ?_
          refine AL.rf ?_
          refine AL.rf ?_
          refine AL.rf ?_
          refine AL.r (rd_pick_f rfl rfl rfl) ?_
          refine AL.ra ?_
          refine AL.nil ?_
          change AW _ _ _ _ _
          refine AW.ret ?_
          change ResA _ _ _ _ _
          refine res1 rfl (ResV.tmp rfl) rfl ?_
          (refine congrArg (fun b => RS.s (AB b)) ?_; rw [Bool.eq_iff_iff]; simp_all [opD_iff, tagD_iff, refD_iff] <;> (intros; simp_all))
        ·skip
         refine AL.n ?_
         refine AL.rf ?_
         refine AL.rf ?_
         refine AL.rf ?_
         refine AL.rf ?_
         refine AL.rf ?_
         refine AL.r (rd_pick_f rfl rfl rfl) ?_
         refine AL.rm ?_
         refine AL.rf ?_
         refine AL.rf ?_
         refine AL.rf ?_
         refine AL.rf ?_
         refine AL.rf ?_
         refine AL.r (rd_pick_f rfl rfl rfl) ?_
         refine AL.rm ?_
         refine AL.rf ?_
         refine AL.rf ?_
         refine AL.rf ?_
         refine AL.rf ?_
         refine AL.rf ?_
         refine AL.r (rd_pick_f rfl rfl rfl) ?_
         refine AL.rm ?_
         refine AL.rf ?_
         refine AL.rf ?_
         refine AL.rf ?_
         refine AL.rf ?_
         refine AL.rf ?_
         refine AL.r (rd_pick_f rfl rfl rfl) ?_
         refine AL.ra ?_
         refine AL.nil ?_
         change AW _ _ _ _ _
         refine AW.ret ?_
         change ResA _ _ _ _ _
         refine res1 rfl (ResV.tmp rfl) rfl ?_
         (refine congrArg (fun b => RS.s (AB b)) ?_; rw [Bool.eq_iff_iff]; simp_all [opD_iff, tagD_iff, refD_iff] <;> (intros; simp_all))
       ·skip
        refine AL.n ?_
        refine AL.rf ?_
        refine AL.rf ?_
        refine AL.rf ?_
        refine AL.rf ?_
        refine AL.rf ?_
        refine AL.r (rd_pick_f rfl rfl rfl) ?_
        refine AL.rm ?_
        refine AL.rf ?_
        refine AL.rf ?_
        refine AL.rf ?_
        refine AL.rf ?_
        refine AL.rf ?_
        refine AL.r (rd_pick_f rfl rfl rfl) ?_
        refine AL.rm ?_
        refine AL.rf ?_
        refine AL.rf ?_
        refine AL.rf ?_
        refine AL.rf ?_
        refine AL.rf ?_
        refine AL.r (rd_pick_f rfl rfl rfl) ?_
        refine AL.rm ?_
        refine AL.rf ?_
        refine AL.rf ?_
        refine AL.rf ?_
        refine AL.rf ?_
        refine AL.rf ?_
        refine AL.r (rd_pick_f rfl rfl rfl) ?_
        refine AL.rm ?_
        refine AL.rf ?_
        refine AL.rf ?_
        refine AL.rf ?_
        refine AL.rf ?_
        refine AL.rf ?_
        refine AL.r (rd_pick_f rfl rfl rfl) ?_
        refine AL.ra ?_
        refine AL.nil ?_
        change AW _ _ _ _ _
        refine AW.ret ?_
        change ResA _ _ _ _ _
        refine res1 rfl (ResV.tmp rfl) rfl ?_
        (refine congrArg (fun b => RS.s (AB b)) ?_; rw [Bool.eq_iff_iff]; simp_all [opD_iff, tagD_iff, refD_iff] <;> (intros; simp_all))
      ·skip
       refine AL.n ?_
       refine AL.rf ?_
       refine AL.rf ?_
       refine AL.rf ?_
       refine AL.rf ?_
       refine AL.rf ?_
       refine AL.r (rd_pick_f rfl rfl rfl) ?_
       refine AL.rm ?_
       refine AL.rf ?_
       refine AL.rf ?_
       refine AL.rf ?_
       refine AL.rf ?_
       refine AL.rf ?_
       refine AL.r (rd_pick_f rfl rfl rfl) ?_
       refine AL.rm ?_
       refine AL.rf ?_
       refine AL.rf ?_
       refine AL.rf ?_
       refine AL.rf ?_
       refine AL.rf ?_
       refine AL.r (rd_pick_f rfl rfl rfl) ?_
       refine AL.rm ?_
       refine AL.rf ?_
       refine AL.rf ?_
       refine AL.rf ?_
       refine AL.rf ?_
       refine AL.rf ?_
       refine AL.r (rd_pick_f rfl rfl rfl) ?_
       refine AL.rm ?_
       refine AL.rf ?_
       refine AL.rf ?_
       refine AL.rf ?_
       refine AL.rf ?_
       refine AL.rf ?_
       refine AL.r (rd_pick_f rfl rfl rfl) ?_
       refine AL.rm ?_
       refine AL.rf ?_
       refine AL.rf ?_
       refine AL.rf ?_
       refine AL.rf ?_
       refine AL.rf ?_
       refine AL.r (rd_pick_f rfl rfl rfl) ?_
       refine AL.ra ?_
       refine AL.nil ?_
       change AW _ _ _ _ _
       refine AW.ret ?_
       change ResA _ _ _ _ _
       refine res1 rfl (ResV.tmp rfl) rfl ?_
       (refine congrArg (fun b => RS.s (AB b)) ?_; rw [Bool.eq_iff_iff]; simp_all [opD_iff, tagD_iff, refD_iff] <;> (intros; simp_all))
     ·skip
      refine AL.n ?_
      refine AL.rf ?_
      refine AL.rf ?_
      refine AL.rf ?_
      refine AL.rf ?_
      refine AL.rf ?_
      refine AL.r (rd_pick_f rfl rfl rfl) ?_
      refine AL.rm ?_
      refine AL.rf ?_
      refine AL.rf ?_
      refine AL.rf ?_
      refine AL.rf ?_
      refine AL.rf ?_
      refine AL.r (rd_pick_f rfl rfl rfl) ?_
      refine AL.rm ?_
      refine AL.rf ?_
      refine AL.rf ?_
      refine AL.rf ?_
      refine AL.rf ?_
      refine AL.rf ?_
      refine AL.r (rd_pick_f rfl rfl rfl) ?_
      refine AL.rm ?_
      refine AL.rf ?_
      refine AL.rf ?_
      refine AL.rf ?_
      refine AL.rf ?_
      refine AL.rf ?_
      refine AL.r (rd_pick_f rfl rfl rfl) ?_
      refine AL.rm ?_
      refine AL.rf ?_
      refine AL.rf ?_
      refine AL.rf ?_
      refine AL.rf ?_
      refine AL.rf ?_
      refine AL.r (rd_pick_f rfl rfl rfl) ?_
      refine AL.rm ?_
      refine AL.rf ?_
      refine AL.rf ?_
      refine AL.rf ?_
      refine AL.rf ?_
      refine AL.rf ?_
      refine AL.r (rd_pick_f rfl rfl rfl) ?_
      refine AL.rm ?_
      refine AL.rf ?_
      refine AL.rf ?_
      refine AL.rf ?_
      refine AL.rf ?_
      refine AL.rf ?_
      refine AL.r (rd_pick_f rfl rfl rfl) ?_
      refine AL.ra ?_
      refine AL.nil ?_
      change AW _ _ _ _ _
      refine AW.ret ?_
      change ResA _ _ _ _ _
      refine res1 rfl (ResV.tmp rfl) rfl ?_
      (refine congrArg (fun b => RS.s (AB b)) ?_; rw [Bool.eq_iff_iff]; simp_all [opD_iff, tagD_iff, refD_iff] <;> (intros; simp_all))
    ·skip
     refine AL.n ?_
     refine AL.rf ?_
     refine AL.rf ?_
     refine AL.rf ?_
     refine AL.rf ?_
     refine AL.rf ?_
     refine AL.r (rd_pick_f rfl rfl rfl) ?_
     refine AL.rm ?_
     refine AL.rf ?_
     refine AL.rf ?_
     refine AL.rf ?_
     refine AL.rf ?_
     refine AL.rf ?_
     refine AL.r (rd_pick_f rfl rfl rfl) ?_
     refine AL.rm ?_
     refine AL.rf ?_
     refine AL.rf ?_
     refine AL.rf ?_
     refine AL.rf ?_
     refine AL.rf ?_
     refine AL.r (rd_pick_f rfl rfl rfl) ?_
     refine AL.rm ?_
     refine AL.rf ?_
     refine AL.rf ?_
     refine AL.rf ?_
     refine AL.rf ?_
     refine AL.rf ?_
     refine AL.r (rd_pick_f rfl rfl rfl) ?_
     refine AL.rm ?_
     refine AL.rf ?_
     refine AL.rf ?_
     refine AL.rf ?_
     refine AL.rf ?_
     refine AL.rf ?_
     refine AL.r (rd_pick_f rfl rfl rfl) ?_
     refine AL.rm ?_
     refine AL.rf ?_
     refine AL.rf ?_
     refine AL.rf ?_
     refine AL.rf ?_
     refine AL.rf ?_
     refine AL.r (rd_pick_f rfl rfl rfl) ?_
     refine AL.rm ?_
     refine AL.rf ?_
     refine AL.rf ?_
     refine AL.rf ?_
     refine AL.rf ?_
     refine AL.rf ?_
     refine AL.r (rd_pick_f rfl rfl rfl) ?_
     refine AL.rm ?_
     refine AL.rf ?_
     refine AL.rf ?_
     refine AL.rf ?_
     refine AL.rf ?_
     refine AL.rf ?_
     refine AL.r (rd_pick_f rfl rfl rfl) ?_
     refine AL.ra ?_
     refine AL.nil ?_
     change AW _ _ _ _ _
     refine AW.ret ?_
     change ResA _ _ _ _ _
     refine res1 rfl (ResV.tmp rfl) rfl ?_
     (refine congrArg (fun b => RS.s (AB b)) ?_; rw [Bool.eq_iff_iff]; simp_all [opD_iff, tagD_iff, refD_iff] <;> (intros; simp_all))
   ·skip
    refine AL.n ?_
    refine AL.rf ?_
    refine AL.rf ?_
    refine AL.rf ?_
    refine AL.rf ?_
    refine AL.rf ?_
    refine AL.r (rd_pick_f rfl rfl rfl) ?_
    refine AL.rm ?_
    refine AL.rf ?_
    refine AL.rf ?_
    refine AL.rf ?_
    refine AL.rf ?_
    refine AL.rf ?_
    refine AL.r (rd_pick_f rfl rfl rfl) ?_
    refine AL.rm ?_
    refine AL.rf ?_
    refine AL.rf ?_
    refine AL.rf ?_
    refine AL.rf ?_
    refine AL.rf ?_
    refine AL.r (rd_pick_f rfl rfl rfl) ?_
    refine AL.rm ?_
    refine AL.rf ?_
    refine AL.rf ?_
    refine AL.rf ?_
    refine AL.rf ?_
    refine AL.rf ?_
    refine AL.r (rd_pick_f rfl rfl rfl) ?_
    refine AL.rm ?_
    refine AL.rf ?_
    refine AL.rf ?_
    refine AL.rf ?_
    refine AL.rf ?_
    refine AL.rf ?_
    refine AL.r (rd_pick_f rfl rfl rfl) ?_
    refine AL.rm ?_
    refine AL.rf ?_
    refine AL.rf ?_
    refine AL.rf ?_
    refine AL.rf ?_
    refine AL.rf ?_
    refine AL.r (rd_pick_f rfl rfl rfl) ?_
    refine AL.rm ?_
    refine AL.rf ?_
    refine AL.rf ?_
    refine AL.rf ?_
    refine AL.rf ?_
    refine AL.rf ?_
    refine AL.r (rd_pick_f rfl rfl rfl) ?_
    refine AL.rm ?_
    refine AL.rf ?_
    refine AL.rf ?_
    refine AL.rf ?_
    refine AL.rf ?_
    refine AL.rf ?_
    refine AL.r (rd_pick_f rfl rfl rfl) ?_
    refine AL.rm ?_
    refine AL.rf ?_
    refine AL.rf ?_
    refine AL.rf ?_
    refine AL.rf ?_
    refine AL.rf ?_
    refine AL.r (rd_pick_f rfl rfl rfl) ?_
    refine AL.ra ?_
    refine AL.nil ?_
    change AW _ _ _ _ _
    refine AW.ret ?_
    change ResA _ _ _ _ _
    refine res1 rfl (ResV.tmp rfl) rfl ?_
    (refine congrArg (fun b => RS.s (AB b)) ?_; rw [Bool.eq_iff_iff]; simp_all [opD_iff, tagD_iff, refD_iff] <;> (intros; simp_all))
  ·skip
   refine AL.n ?_
   refine AL.rf ?_
   refine AL.rf ?_
   refine AL.rf ?_
   refine AL.rf ?_
   refine AL.rf ?_
   refine AL.r (rd_pick_f rfl rfl rfl) ?_
   refine AL.rm ?_
   refine AL.rf ?_
   refine AL.rf ?_
   refine AL.rf ?_
   refine AL.rf ?_
   refine AL.rf ?_
   refine AL.r (rd_pick_f rfl rfl rfl) ?_
   refine AL.rm ?_
   refine AL.rf ?_
   refine AL.rf ?_
   refine AL.rf ?_
   refine AL.rf ?_
   refine AL.rf ?_
   refine AL.r (rd_pick_f rfl rfl rfl) ?_
   refine AL.rm ?_
   refine AL.rf ?_
   refine AL.rf ?_
   refine AL.rf ?_
   refine AL.rf ?_
   refine AL.rf ?_
   refine AL.r (rd_pick_f rfl rfl rfl) ?_
   refine AL.rm ?_
   refine AL.rf ?_
   refine AL.rf ?_
   refine AL.rf ?_
   refine AL.rf ?_
   refine AL.rf ?_
   refine AL.r (rd_pick_f rfl rfl rfl) ?_
   refine AL.rm ?_
   refine AL.rf ?_
   refine AL.rf ?_
   refine AL.rf ?_
   refine AL.rf ?_
   refine AL.rf ?_
   refine AL.r (rd_pick_f rfl rfl rfl) ?_
   refine AL.rm ?_
   refine AL.rf ?_
   refine AL.rf ?_
   refine AL.rf ?_
   refine AL.rf ?_
   refine AL.rf ?_
   refine AL.r (rd_pick_f rfl rfl rfl) ?_
   refine AL.rm ?_
   refine AL.rf ?_
   refine AL.rf ?_
   refine AL.rf ?_
   refine AL.rf ?_
   refine AL.rf ?_
   refine AL.r (rd_pick_f rfl rfl rfl) ?_
   refine AL.rm ?_
   refine AL.rf ?_
   refine AL.rf ?_
   refine AL.rf ?_
   refine AL.rf ?_
   refine AL.rf ?_
   refine AL.r (rd_pick_f rfl rfl rfl) ?_
   refine AL.rm ?_
   refine AL.rf ?_
   refine AL.rf ?_
   refine AL.rf ?_
   refine AL.rf ?_
   refine AL.rf ?_
   refine AL.r (rd_pick_f rfl rfl rfl) ?_
   refine AL.ra ?_
   refine AL.nil ?_
   change AW _ _ _ _ _
   refine AW.ret ?_
   change ResA _ _ _ _ _
   refine res1 rfl (ResV.tmp rfl) rfl ?_
   (refine congrArg (fun b => RS.s (AB b)) ?_; rw [Bool.eq_iff_iff]; simp_all [opD_iff, tagD_iff, refD_iff] <;> (intros; simp_all))
theorem rsameops_c (l m : List OpD) : AC Try.prog 31 [.sl (l.map OpD.cs), .sl (m.map OpD.cs)] (fun x => x = .s (AB (decide (l = m)))) := by
  refine AC.of' 25 0 Try.func31 rfl ?_
  change AW _ _ _ _ []
  refine AW.seq ?_
  refine AW.region ?_
  refine AL.ra ?_
  refine AL.nil ?_
  change AW _ _ _ _ _
  refine AW.seq ?_
  refine AW.seq ?_
  refine AW.region ?_
  refine AL.len (x := .tmp 0) rfl (fun hlen => ?_); rw [List.length_map] at hlen; unfold maxLen at hlen
  refine AL.rm ?_
  refine AL.r (rd_len_sl rfl el_50 rfl) ?_
  refine AL.rm ?_
  refine AL.r (rd_len_sl rfl el_50 rfl) ?_
  refine AL.r (rd_bin rfl rfl rfl (fun _ => rfl)) ?_
  refine AL.nil ?_
  change AW _ _ _ _ _
  refine AW.cd rfl (fun h10 => ?_) (fun h10 => ?_)
  ·skip
   refine AW.seq ?_
   refine AW.region ?_
   refine AL.ra ?_
   refine AL.nil ?_
   change AW _ _ _ _ _
   refine AW.ret ?_
   change ResA _ _ _ _ _
   refine res1 rfl (ResV.tmp rfl) rfl ?_
   rw [decide_eq_false (fun e => by subst e; simp at h10)]
  ·skip
   refine AW.skip ?_
   change AW _ _ _ _ _
   refine AW.seq ?_
   refine AW.seq ?_
   refine AW.region ?_
   refine AL.ra ?_
   refine AL.nil ?_
   change AW _ _ _ _ _
   refine AW.block ?_
   refine AW.loopM (ι := Nat) [4, 11, 12, 13, 14, 15, 16, 17, 18, 19, 20, 21, 22, 23, 24, 25, 26] (fun k => [(5, AI (k : Int))]) [] (fun k => []) (fun k => k ≤ l.length ∧ l.take k = m.take k) (fun k => l.length - k) 0 (⟨by omega, rfl⟩) (by simp only [anys, upds, offs, List.set_cons_zero, List.set_cons_succ]; repeat (first | exact Wk.nil | refine Wk.same ?_ | refine Wk.any ?_)) (by simp only [anys, upds, offs, List.set_cons_zero, List.set_cons_succ]; repeat (first | exact Sk.nil _ | refine Sk.same _ ?_ | refine Sk.scr _ (by decide) ?_)) ?_
   rintro k gs hJ
   refine AW.norm (by simp only [anys, upds, offs, List.set_cons_zero, List.set_cons_succ]; rfl) (by (try simp only [anys, upds, offs, List.set_cons_zero, List.set_cons_succ]); (try rfl)) ?_
   obtain ⟨hk, hok⟩ := hJ
   refine AW.seq ?_
   refine AW.seq ?_
   refine AW.region ?_
   refine AL.rm ?_
   refine AL.rm ?_
   refine AL.r (rd_len_sl rfl el_50 rfl) ?_
   refine AL.r (rd_bin rfl rfl rfl (fun _ => rfl)) ?_
   refine AL.nil ?_
   change AW _ _ _ _ _
   refine AW.cd rfl (fun h14 => ?_) (fun h14 => ?_)
   ·skip
    refine AW.skip ?_
    change AW _ _ _ _ _
    refine AW.seq ?_
    refine AW.block ?_
    refine AW.seq ?_
    refine AW.draw (by kernel_rfl) ?_
    refine AD.r 0 rfl (rd_move rfl rfl) rfl ?_
    refine AD.r 1 rfl (rd_move rfl rfl) rfl ?_
    refine AD.r 2 rfl (rd_iaddr_sl rfl el_50 rfl rfl rfl (get_mapA (by omega)) rfl) rfl ?_
    refine AD.r 3 rfl (rd_loadN_ep rfl ag_47 rfl (Nat.le_of_ble_eq_true rfl) rfl) rfl ?_
    refine AD.r 4 rfl (rd_move rfl rfl) rfl ?_
    refine AD.r 5 rfl (rd_move rfl rfl) rfl ?_
    refine AD.r 6 rfl (rd_iaddr_sl rfl el_50 rfl rfl rfl (get_mapA (by omega)) rfl) rfl ?_
    refine AD.r 7 rfl (rd_loadN_ep rfl ag_47 rfl (Nat.le_of_ble_eq_true rfl) rfl) rfl ?_
    refine AD.move 8 rfl (by kernel_rfl) rfl (op_call (rsameo_c (l[k]'(by omega)) (m[k]'(by omega))) rfl (by kernel_rfl) rfl (none) ?_)
    rintro r rfl
    refine AD.n ?_
    refine AD.r 9 rfl (rd_un rfl rfl (fun _ => rfl)) rfl ?_
    refine AD.done (by kernel_rfl) ?_
    change AW _ _ _ _ _
    refine AW.cd rfl (fun h26 => ?_) (fun h26 => ?_)
    ·skip
     refine AW.seq ?_
     refine AW.region ?_
     refine AL.ra ?_
     refine AL.nil ?_
     change AW _ _ _ _ _
     refine AW.ret ?_
     change ResA _ _ _ _ _
     refine res1 rfl (ResV.tmp rfl) rfl ?_
     rw [decide_eq_false (fun e => by subst e; simp at h26)]
    ·skip
     refine AW.skip ?_
     change AW _ _ _ _ _
     refine AW.region ?_
     refine AL.rm ?_
     refine AL.r (rd_arith_add rfl rfl rfl (by first | exact IntWalk.i64_in _ (by omega) | rfl)) ?_
     refine AL.ra ?_
     refine AL.nil ?_
     refine ⟨k + 1, ?_, by first | omega | (simp only []; omega), ?_, ?_⟩
     ·exact ⟨by omega, take_eq_next (by omega) (by omega) hok (by simpa using h26)⟩
     ·simp only [anys, upds, offs, List.set_cons_zero, List.set_cons_succ]; repeat (first | exact Wk.nil | refine Wk.same ?_ | refine Wk.any ?_)
     ·simp only [anys, upds, offs, List.set_cons_zero, List.set_cons_succ]; repeat (first | exact Sk.nil _ | refine Sk.same _ ?_ | refine Sk.scr _ (by decide) ?_)
   ·skip
    refine AW.exit ?_
    change AW _ _ _ _ _
    refine AW.seq ?_
    refine AW.region ?_
    refine AL.ra ?_
    refine AL.nil ?_
    change AW _ _ _ _ _
    refine AW.ret ?_
    change ResA _ _ _ _ _
    refine res1 rfl (ResV.tmp rfl) rfl ?_
    rw [decide_eq_true (by rw [List.take_of_length_le (by omega), List.take_of_length_le (by omega)] at hok; exact hok)]
def heavyOs (l : List OpD) (most : Int) : Bool := decide (most < (l.length : Int)) || l.any heavyO
theorem heavyOs_f {l : List OpD} {most : Int} (h : heavyOs l most = false) : (l.length : Int) ≤ most ∧ ∀ o ∈ l, heavyO o = false := by
  unfold heavyOs at h
  simp only [Bool.or_eq_false_iff, decide_eq_false_iff_not, List.any_eq_false] at h
  exact ⟨by omega, fun f hf => by have := h.2 f hf; simpa using this⟩
theorem rheavyos_c (l : List OpD) (most : Int) : AC Try.prog 30 [.sl (l.map OpD.cs), AI most] (fun x => x = .s (AB (heavyOs l most))) := by
  refine AC.of' 19 0 Try.func30 rfl ?_
  change AW _ _ _ _ []
  refine AW.seq ?_
  refine AW.region ?_
  refine AL.ra ?_
  refine AL.nil ?_
  change AW _ _ _ _ _
  refine AW.seq ?_
  refine AW.seq ?_
  refine AW.region ?_
  refine AL.len (x := .tmp 0) rfl (fun hlen => ?_); rw [List.length_map] at hlen; unfold maxLen at hlen
  refine AL.rm ?_
  refine AL.r (rd_len_sl rfl el_50 rfl) ?_
  refine AL.rm ?_
  refine AL.r (rd_bin rfl rfl rfl (fun _ => rfl)) ?_
  refine AL.nil ?_
  change AW _ _ _ _ _
  refine AW.cd rfl (fun h9 => ?_) (fun h9 => ?_)
  ·skip
   refine AW.seq ?_
   refine AW.region ?_
   refine AL.ra ?_
   refine AL.nil ?_
   change AW _ _ _ _ _
   refine AW.ret ?_
   change ResA _ _ _ _ _
   refine res1 rfl (ResV.tmp rfl) rfl ?_
   (have : heavyOs l most = true := by (unfold heavyOs; rw [decide_eq_true (by omega)]; rfl)); rw [this]
  ·skip
   refine AW.skip ?_
   change AW _ _ _ _ _
   refine AW.seq ?_
   refine AW.seq ?_
   refine AW.region ?_
   refine AL.ra ?_
   refine AL.nil ?_
   change AW _ _ _ _ _
   refine AW.block ?_
   refine AW.loopM (ι := Nat) [4, 10, 11, 12, 13, 14, 15, 16, 17, 18, 19, 20] (fun k => [(5, AI (k : Int))]) [] (fun k => []) (fun k => k ≤ l.length ∧ ∀ i (hi : i < l.length), i < k → heavyO l[i] = false) (fun k => l.length - k) 0 (⟨by omega, fun i _ hi => absurd hi (by omega)⟩) (by simp only [anys, upds, offs, List.set_cons_zero, List.set_cons_succ]; repeat (first | exact Wk.nil | refine Wk.same ?_ | refine Wk.any ?_)) (by simp only [anys, upds, offs, List.set_cons_zero, List.set_cons_succ]; repeat (first | exact Sk.nil _ | refine Sk.same _ ?_ | refine Sk.scr _ (by decide) ?_)) ?_
   rintro k gs hJ
   refine AW.norm (by simp only [anys, upds, offs, List.set_cons_zero, List.set_cons_succ]; rfl) (by (try simp only [anys, upds, offs, List.set_cons_zero, List.set_cons_succ]); (try rfl)) ?_
   obtain ⟨hk, hok⟩ := hJ
   refine AW.seq ?_
   refine AW.seq ?_
   refine AW.region ?_
   refine AL.rm ?_
   refine AL.rm ?_
   refine AL.r (rd_len_sl rfl el_50 rfl) ?_
   refine AL.r (rd_bin rfl rfl rfl (fun _ => rfl)) ?_
   refine AL.nil ?_
   change AW _ _ _ _ _
   refine AW.cd rfl (fun h13 => ?_) (fun h13 => ?_)
   ·skip
    refine AW.skip ?_
    change AW _ _ _ _ _
    refine AW.seq ?_
    refine AW.block ?_
    refine AW.seq ?_
    refine AW.region ?_
    refine AL.rm ?_
    refine AL.rm ?_
    refine AL.r (rd_iaddr_sl rfl el_50 rfl rfl rfl (get_mapA (by omega)) rfl) ?_
    refine AL.r (rd_loadN_ep rfl ag_47 rfl (Nat.le_of_ble_eq_true rfl) rfl) ?_
    refine AL.op rfl (AOpB.op (op_call (oheavy_c (l[k]'(by omega))) rfl (by kernel_rfl) rfl (none) ?_))
    rintro r rfl
    refine AL.n ?_
    refine AL.nil ?_
    change AW _ _ _ _ _
    refine AW.cd rfl (fun h20 => ?_) (fun h20 => ?_)
    ·skip
     refine AW.seq ?_
     refine AW.region ?_
     refine AL.ra ?_
     refine AL.nil ?_
     change AW _ _ _ _ _
     refine AW.ret ?_
     change ResA _ _ _ _ _
     refine res1 rfl (ResV.tmp rfl) rfl ?_
     (have : heavyOs l most = true := by (unfold heavyOs; rw [any_t (k := k) (by omega) (by simpa using h20)]; simp)); rw [this]
    ·skip
     refine AW.skip ?_
     change AW _ _ _ _ _
     refine AW.region ?_
     refine AL.rm ?_
     refine AL.r (rd_arith_add rfl rfl rfl (by first | exact IntWalk.i64_in _ (by omega) | rfl)) ?_
     refine AL.ra ?_
     refine AL.nil ?_
     refine ⟨k + 1, ?_, by first | omega | (simp only []; omega), ?_, ?_⟩
     ·exact ⟨by omega, all_nextL (p := fun f => heavyO f = false) (by omega) hok (by simpa using h20)⟩
     ·simp only [anys, upds, offs, List.set_cons_zero, List.set_cons_succ]; repeat (first | exact Wk.nil | refine Wk.same ?_ | refine Wk.any ?_)
     ·simp only [anys, upds, offs, List.set_cons_zero, List.set_cons_succ]; repeat (first | exact Sk.nil _ | refine Sk.same _ ?_ | refine Sk.scr _ (by decide) ?_)
   ·skip
    refine AW.exit ?_
    change AW _ _ _ _ _
    refine AW.seq ?_
    refine AW.region ?_
    refine AL.ra ?_
    refine AL.nil ?_
    change AW _ _ _ _ _
    refine AW.ret ?_
    change ResA _ _ _ _ _
    refine res1 rfl (ResV.tmp rfl) rfl ?_
    (have : heavyOs l most = false := by (unfold heavyOs; rw [any_f (fun i hi => hok i hi (by omega)), decide_eq_false (by omega)]; rfl)); rw [this]
theorem rhas_f (v : VecD) (t : TagD) (h : tagB t = false) : AC Try.prog 35 [vecA v, t.av] (fun r => r = .s (AB (hasV v t))) := by
  unfold hasV
  rw [h]
  refine AC.of' 15 2 Try.func35 rfl ?_
  change AW _ _ _ _ [TK.mk 0 .off, TK.mk 0 .off]
  refine AW.seq ?_
  refine AW.region ?_
  refine AL.op rfl (AOpB.op (op_box 0 rfl rfl rfl rfl rfl ?_))
  refine AL.n ?_
  refine AL.op rfl (AOpB.op (op_box 1 rfl rfl rfl rfl rfl ?_))
  refine AL.n ?_
  refine AL.ra ?_
  refine AL.nil ?_
  change AW _ _ _ _ _
  refine AW.seq ?_
  refine AW.draw (by kernel_rfl) ?_
  refine AD.r 0 rfl (rd_loadN_bx rfl ag_44 rfl rfl (Nat.le_of_ble_eq_true rfl) rfl) rfl ?_
  refine AD.move 1 rfl (by kernel_rfl) rfl (op_call (rtag_c t) rfl (by kernel_rfl) rfl (none) ?_)
  rintro r rfl
  refine AD.n ?_
  rw [h]
  refine AD.r 2 rfl (rd_move rfl rfl) rfl ?_
  refine AD.fk (d := 7) rfl (fun h7 => ?_) (fun h7 => ?_)
  ·skip
   exact absurd h7 (by decide)
  ·skip
   refine AD.n ?_
   refine AD.s 3 rfl ⟨_, _, rfl, rfl, rfl⟩ ?_
   refine AD.s 4 rfl ⟨_, _, rfl, rfl, rfl⟩ ?_
   refine AD.s 5 rfl ⟨_, _, rfl, rfl, rfl⟩ ?_
   refine AD.s 6 rfl ⟨_, _, rfl, rfl, rfl⟩ ?_
   refine AD.s 7 rfl ⟨_, _, rfl, rfl, rfl⟩ ?_
   refine AD.s 8 rfl ⟨_, _, rfl, rfl, rfl⟩ ?_
   refine AD.s 9 rfl ⟨_, _, rfl, rfl, rfl⟩ ?_
   refine AD.s 10 rfl ⟨_, _, rfl, rfl, rfl⟩ ?_
   refine AD.r 11 rfl (rd_pick_f rfl rfl rfl) rfl ?_
   refine AD.r 12 rfl (rd_assign rfl rfl) rfl ?_
   refine AD.done (by kernel_rfl) ?_
   change AW _ _ _ _ _
   refine AW.ret ?_
   change ResA _ _ _ _ _
   refine res1 rfl (ResV.tmp rfl) rfl ?_
   rfl
theorem rtag_t {t : TagD} (h : tagB t = true) : AC Try.prog 84 [t.av] (fun r => r = .s (AB true)) := by
  have := rtag_c t
  rwa [h] at this
theorem rhas_1 (v : VecD) (n : Int) (h : tagB ⟨1, n⟩ = true) : AC Try.prog 35 [vecA v, .ag [AI 1, AI n]] (fun r => r = .s (AB (hasV v ⟨1, n⟩))) := by
  unfold hasV
  rw [h]
  change AC _ _ [vecA v, .ag [AI 1, AI n]] _
  refine AC.of' 15 2 Try.func35 rfl ?_
  change AW _ _ _ _ [TK.mk 0 .off, TK.mk 0 .off]
  refine AW.seq ?_
  refine AW.region ?_
  refine AL.op rfl (AOpB.op (op_box 0 rfl rfl rfl rfl rfl ?_))
  refine AL.n ?_
  refine AL.op rfl (AOpB.op (op_box 1 rfl rfl rfl rfl rfl ?_))
  refine AL.n ?_
  refine AL.ra ?_
  refine AL.nil ?_
  change AW _ _ _ _ _
  refine AW.seq ?_
  refine AW.draw (by kernel_rfl) ?_
  refine AD.r 0 rfl (rd_loadN_bx rfl ag_44 rfl rfl (Nat.le_of_ble_eq_true rfl) rfl) rfl ?_
  refine AD.move 1 rfl (by kernel_rfl) rfl (op_call (rtag_t (t := ⟨1, n⟩) h) rfl (by kernel_rfl) rfl (none) ?_)
  rintro r rfl
  refine AD.n ?_
  refine AD.r 2 rfl (rd_move rfl rfl) rfl ?_
  refine AD.r 3 rfl (rd_faddr_bx rfl fo_44_0 rfl rfl ⟨_, _, rfl⟩) ⟨_, _, rfl, rfl, rfl⟩ ?_
  refine AD.r 4 rfl (rd_load_bx rfl ag_3 rfl rfl rfl) ⟨_, _, rfl, rfl, rfl⟩ ?_
  refine AD.r 5 rfl (rd_arith_sub rfl rfl rfl (rfl : _ = (0 : Int))) ⟨_, _, rfl, rfl, rfl⟩ ?_
  refine AD.r 6 rfl (rd_iaddr_bx_ 0 rfl ar_58 rfl rfl rfl) ⟨_, _, rfl, rfl, rfl⟩ ?_
  refine AD.r 7 rfl (rd_load_bx rfl ag_3 rfl rfl rfl) ⟨_, _, rfl, rfl, rfl⟩ ?_
  refine AD.r 8 rfl (rd_faddr_bx rfl fo_44_1 rfl rfl ⟨_, _, rfl⟩) ⟨_, _, rfl, rfl, rfl⟩ ?_
  refine AD.r 9 rfl (rd_load_bx rfl ag_3 rfl rfl rfl) ⟨_, _, rfl, rfl, rfl⟩ ?_
  refine AD.r 10 rfl (rd_bin rfl rfl rfl (fun _ => rfl)) ⟨_, _, rfl, rfl, rfl⟩ ?_
  refine AD.r 11 rfl (rd_pick_t rfl rfl rfl) rfl ?_
  refine AD.r 12 rfl (rd_assign rfl rfl) rfl ?_
  refine AD.done (by kernel_rfl) ?_
  change AW _ _ _ _ _
  refine AW.ret ?_
  change ResA _ _ _ _ _
  refine res1 rfl (ResV.tmp rfl) rfl ?_
  rfl
theorem rhas_2 (v : VecD) (n : Int) (h : tagB ⟨2, n⟩ = true) : AC Try.prog 35 [vecA v, .ag [AI 2, AI n]] (fun r => r = .s (AB (hasV v ⟨2, n⟩))) := by
  unfold hasV
  rw [h]
  change AC _ _ [vecA v, .ag [AI 2, AI n]] _
  refine AC.of' 15 2 Try.func35 rfl ?_
  change AW _ _ _ _ [TK.mk 0 .off, TK.mk 0 .off]
  refine AW.seq ?_
  refine AW.region ?_
  refine AL.op rfl (AOpB.op (op_box 0 rfl rfl rfl rfl rfl ?_))
  refine AL.n ?_
  refine AL.op rfl (AOpB.op (op_box 1 rfl rfl rfl rfl rfl ?_))
  refine AL.n ?_
  refine AL.ra ?_
  refine AL.nil ?_
  change AW _ _ _ _ _
  refine AW.seq ?_
  refine AW.draw (by kernel_rfl) ?_
  refine AD.r 0 rfl (rd_loadN_bx rfl ag_44 rfl rfl (Nat.le_of_ble_eq_true rfl) rfl) rfl ?_
  refine AD.move 1 rfl (by kernel_rfl) rfl (op_call (rtag_t (t := ⟨2, n⟩) h) rfl (by kernel_rfl) rfl (none) ?_)
  rintro r rfl
  refine AD.n ?_
  refine AD.r 2 rfl (rd_move rfl rfl) rfl ?_
  refine AD.r 3 rfl (rd_faddr_bx rfl fo_44_0 rfl rfl ⟨_, _, rfl⟩) ⟨_, _, rfl, rfl, rfl⟩ ?_
  refine AD.r 4 rfl (rd_load_bx rfl ag_3 rfl rfl rfl) ⟨_, _, rfl, rfl, rfl⟩ ?_
  refine AD.r 5 rfl (rd_arith_sub rfl rfl rfl (rfl : _ = (1 : Int))) ⟨_, _, rfl, rfl, rfl⟩ ?_
  refine AD.r 6 rfl (rd_iaddr_bx_ 1 rfl ar_58 rfl rfl rfl) ⟨_, _, rfl, rfl, rfl⟩ ?_
  refine AD.r 7 rfl (rd_load_bx rfl ag_3 rfl rfl rfl) ⟨_, _, rfl, rfl, rfl⟩ ?_
  refine AD.r 8 rfl (rd_faddr_bx rfl fo_44_1 rfl rfl ⟨_, _, rfl⟩) ⟨_, _, rfl, rfl, rfl⟩ ?_
  refine AD.r 9 rfl (rd_load_bx rfl ag_3 rfl rfl rfl) ⟨_, _, rfl, rfl, rfl⟩ ?_
  refine AD.r 10 rfl (rd_bin rfl rfl rfl (fun _ => rfl)) ⟨_, _, rfl, rfl, rfl⟩ ?_
  refine AD.r 11 rfl (rd_pick_t rfl rfl rfl) rfl ?_
  refine AD.r 12 rfl (rd_assign rfl rfl) rfl ?_
  refine AD.done (by kernel_rfl) ?_
  change AW _ _ _ _ _
  refine AW.ret ?_
  change ResA _ _ _ _ _
  refine res1 rfl (ResV.tmp rfl) rfl ?_
  rfl
theorem rhas_3 (v : VecD) (n : Int) (h : tagB ⟨3, n⟩ = true) : AC Try.prog 35 [vecA v, .ag [AI 3, AI n]] (fun r => r = .s (AB (hasV v ⟨3, n⟩))) := by
  unfold hasV
  rw [h]
  change AC _ _ [vecA v, .ag [AI 3, AI n]] _
  refine AC.of' 15 2 Try.func35 rfl ?_
  change AW _ _ _ _ [TK.mk 0 .off, TK.mk 0 .off]
  refine AW.seq ?_
  refine AW.region ?_
  refine AL.op rfl (AOpB.op (op_box 0 rfl rfl rfl rfl rfl ?_))
  refine AL.n ?_
  refine AL.op rfl (AOpB.op (op_box 1 rfl rfl rfl rfl rfl ?_))
  refine AL.n ?_
  refine AL.ra ?_
  refine AL.nil ?_
  change AW _ _ _ _ _
  refine AW.seq ?_
  refine AW.draw (by kernel_rfl) ?_
  refine AD.r 0 rfl (rd_loadN_bx rfl ag_44 rfl rfl (Nat.le_of_ble_eq_true rfl) rfl) rfl ?_
  refine AD.move 1 rfl (by kernel_rfl) rfl (op_call (rtag_t (t := ⟨3, n⟩) h) rfl (by kernel_rfl) rfl (none) ?_)
  rintro r rfl
  refine AD.n ?_
  refine AD.r 2 rfl (rd_move rfl rfl) rfl ?_
  refine AD.r 3 rfl (rd_faddr_bx rfl fo_44_0 rfl rfl ⟨_, _, rfl⟩) ⟨_, _, rfl, rfl, rfl⟩ ?_
  refine AD.r 4 rfl (rd_load_bx rfl ag_3 rfl rfl rfl) ⟨_, _, rfl, rfl, rfl⟩ ?_
  refine AD.r 5 rfl (rd_arith_sub rfl rfl rfl (rfl : _ = (2 : Int))) ⟨_, _, rfl, rfl, rfl⟩ ?_
  refine AD.r 6 rfl (rd_iaddr_bx_ 2 rfl ar_58 rfl rfl rfl) ⟨_, _, rfl, rfl, rfl⟩ ?_
  refine AD.r 7 rfl (rd_load_bx rfl ag_3 rfl rfl rfl) ⟨_, _, rfl, rfl, rfl⟩ ?_
  refine AD.r 8 rfl (rd_faddr_bx rfl fo_44_1 rfl rfl ⟨_, _, rfl⟩) ⟨_, _, rfl, rfl, rfl⟩ ?_
  refine AD.r 9 rfl (rd_load_bx rfl ag_3 rfl rfl rfl) ⟨_, _, rfl, rfl, rfl⟩ ?_
  refine AD.r 10 rfl (rd_bin rfl rfl rfl (fun _ => rfl)) ⟨_, _, rfl, rfl, rfl⟩ ?_
  refine AD.r 11 rfl (rd_pick_t rfl rfl rfl) rfl ?_
  refine AD.r 12 rfl (rd_assign rfl rfl) rfl ?_
  refine AD.done (by kernel_rfl) ?_
  change AW _ _ _ _ _
  refine AW.ret ?_
  change ResA _ _ _ _ _
  refine res1 rfl (ResV.tmp rfl) rfl ?_
  rfl
theorem rhas_4 (v : VecD) (n : Int) (h : tagB ⟨4, n⟩ = true) : AC Try.prog 35 [vecA v, .ag [AI 4, AI n]] (fun r => r = .s (AB (hasV v ⟨4, n⟩))) := by
  unfold hasV
  rw [h]
  change AC _ _ [vecA v, .ag [AI 4, AI n]] _
  refine AC.of' 15 2 Try.func35 rfl ?_
  change AW _ _ _ _ [TK.mk 0 .off, TK.mk 0 .off]
  refine AW.seq ?_
  refine AW.region ?_
  refine AL.op rfl (AOpB.op (op_box 0 rfl rfl rfl rfl rfl ?_))
  refine AL.n ?_
  refine AL.op rfl (AOpB.op (op_box 1 rfl rfl rfl rfl rfl ?_))
  refine AL.n ?_
  refine AL.ra ?_
  refine AL.nil ?_
  change AW _ _ _ _ _
  refine AW.seq ?_
  refine AW.draw (by kernel_rfl) ?_
  refine AD.r 0 rfl (rd_loadN_bx rfl ag_44 rfl rfl (Nat.le_of_ble_eq_true rfl) rfl) rfl ?_
  refine AD.move 1 rfl (by kernel_rfl) rfl (op_call (rtag_t (t := ⟨4, n⟩) h) rfl (by kernel_rfl) rfl (none) ?_)
  rintro r rfl
  refine AD.n ?_
  refine AD.r 2 rfl (rd_move rfl rfl) rfl ?_
  refine AD.r 3 rfl (rd_faddr_bx rfl fo_44_0 rfl rfl ⟨_, _, rfl⟩) ⟨_, _, rfl, rfl, rfl⟩ ?_
  refine AD.r 4 rfl (rd_load_bx rfl ag_3 rfl rfl rfl) ⟨_, _, rfl, rfl, rfl⟩ ?_
  refine AD.r 5 rfl (rd_arith_sub rfl rfl rfl (rfl : _ = (3 : Int))) ⟨_, _, rfl, rfl, rfl⟩ ?_
  refine AD.r 6 rfl (rd_iaddr_bx_ 3 rfl ar_58 rfl rfl rfl) ⟨_, _, rfl, rfl, rfl⟩ ?_
  refine AD.r 7 rfl (rd_load_bx rfl ag_3 rfl rfl rfl) ⟨_, _, rfl, rfl, rfl⟩ ?_
  refine AD.r 8 rfl (rd_faddr_bx rfl fo_44_1 rfl rfl ⟨_, _, rfl⟩) ⟨_, _, rfl, rfl, rfl⟩ ?_
  refine AD.r 9 rfl (rd_load_bx rfl ag_3 rfl rfl rfl) ⟨_, _, rfl, rfl, rfl⟩ ?_
  refine AD.r 10 rfl (rd_bin rfl rfl rfl (fun _ => rfl)) ⟨_, _, rfl, rfl, rfl⟩ ?_
  refine AD.r 11 rfl (rd_pick_t rfl rfl rfl) rfl ?_
  refine AD.r 12 rfl (rd_assign rfl rfl) rfl ?_
  refine AD.done (by kernel_rfl) ?_
  change AW _ _ _ _ _
  refine AW.ret ?_
  change ResA _ _ _ _ _
  refine res1 rfl (ResV.tmp rfl) rfl ?_
  rfl
theorem rhas_5 (v : VecD) (n : Int) (h : tagB ⟨5, n⟩ = true) : AC Try.prog 35 [vecA v, .ag [AI 5, AI n]] (fun r => r = .s (AB (hasV v ⟨5, n⟩))) := by
  unfold hasV
  rw [h]
  change AC _ _ [vecA v, .ag [AI 5, AI n]] _
  refine AC.of' 15 2 Try.func35 rfl ?_
  change AW _ _ _ _ [TK.mk 0 .off, TK.mk 0 .off]
  refine AW.seq ?_
  refine AW.region ?_
  refine AL.op rfl (AOpB.op (op_box 0 rfl rfl rfl rfl rfl ?_))
  refine AL.n ?_
  refine AL.op rfl (AOpB.op (op_box 1 rfl rfl rfl rfl rfl ?_))
  refine AL.n ?_
  refine AL.ra ?_
  refine AL.nil ?_
  change AW _ _ _ _ _
  refine AW.seq ?_
  refine AW.draw (by kernel_rfl) ?_
  refine AD.r 0 rfl (rd_loadN_bx rfl ag_44 rfl rfl (Nat.le_of_ble_eq_true rfl) rfl) rfl ?_
  refine AD.move 1 rfl (by kernel_rfl) rfl (op_call (rtag_t (t := ⟨5, n⟩) h) rfl (by kernel_rfl) rfl (none) ?_)
  rintro r rfl
  refine AD.n ?_
  refine AD.r 2 rfl (rd_move rfl rfl) rfl ?_
  refine AD.r 3 rfl (rd_faddr_bx rfl fo_44_0 rfl rfl ⟨_, _, rfl⟩) ⟨_, _, rfl, rfl, rfl⟩ ?_
  refine AD.r 4 rfl (rd_load_bx rfl ag_3 rfl rfl rfl) ⟨_, _, rfl, rfl, rfl⟩ ?_
  refine AD.r 5 rfl (rd_arith_sub rfl rfl rfl (rfl : _ = (4 : Int))) ⟨_, _, rfl, rfl, rfl⟩ ?_
  refine AD.r 6 rfl (rd_iaddr_bx_ 4 rfl ar_58 rfl rfl rfl) ⟨_, _, rfl, rfl, rfl⟩ ?_
  refine AD.r 7 rfl (rd_load_bx rfl ag_3 rfl rfl rfl) ⟨_, _, rfl, rfl, rfl⟩ ?_
  refine AD.r 8 rfl (rd_faddr_bx rfl fo_44_1 rfl rfl ⟨_, _, rfl⟩) ⟨_, _, rfl, rfl, rfl⟩ ?_
  refine AD.r 9 rfl (rd_load_bx rfl ag_3 rfl rfl rfl) ⟨_, _, rfl, rfl, rfl⟩ ?_
  refine AD.r 10 rfl (rd_bin rfl rfl rfl (fun _ => rfl)) ⟨_, _, rfl, rfl, rfl⟩ ?_
  refine AD.r 11 rfl (rd_pick_t rfl rfl rfl) rfl ?_
  refine AD.r 12 rfl (rd_assign rfl rfl) rfl ?_
  refine AD.done (by kernel_rfl) ?_
  change AW _ _ _ _ _
  refine AW.ret ?_
  change ResA _ _ _ _ _
  refine res1 rfl (ResV.tmp rfl) rfl ?_
  rfl
theorem rhas_6 (v : VecD) (n : Int) (h : tagB ⟨6, n⟩ = true) : AC Try.prog 35 [vecA v, .ag [AI 6, AI n]] (fun r => r = .s (AB (hasV v ⟨6, n⟩))) := by
  unfold hasV
  rw [h]
  change AC _ _ [vecA v, .ag [AI 6, AI n]] _
  refine AC.of' 15 2 Try.func35 rfl ?_
  change AW _ _ _ _ [TK.mk 0 .off, TK.mk 0 .off]
  refine AW.seq ?_
  refine AW.region ?_
  refine AL.op rfl (AOpB.op (op_box 0 rfl rfl rfl rfl rfl ?_))
  refine AL.n ?_
  refine AL.op rfl (AOpB.op (op_box 1 rfl rfl rfl rfl rfl ?_))
  refine AL.n ?_
  refine AL.ra ?_
  refine AL.nil ?_
  change AW _ _ _ _ _
  refine AW.seq ?_
  refine AW.draw (by kernel_rfl) ?_
  refine AD.r 0 rfl (rd_loadN_bx rfl ag_44 rfl rfl (Nat.le_of_ble_eq_true rfl) rfl) rfl ?_
  refine AD.move 1 rfl (by kernel_rfl) rfl (op_call (rtag_t (t := ⟨6, n⟩) h) rfl (by kernel_rfl) rfl (none) ?_)
  rintro r rfl
  refine AD.n ?_
  refine AD.r 2 rfl (rd_move rfl rfl) rfl ?_
  refine AD.r 3 rfl (rd_faddr_bx rfl fo_44_0 rfl rfl ⟨_, _, rfl⟩) ⟨_, _, rfl, rfl, rfl⟩ ?_
  refine AD.r 4 rfl (rd_load_bx rfl ag_3 rfl rfl rfl) ⟨_, _, rfl, rfl, rfl⟩ ?_
  refine AD.r 5 rfl (rd_arith_sub rfl rfl rfl (rfl : _ = (5 : Int))) ⟨_, _, rfl, rfl, rfl⟩ ?_
  refine AD.r 6 rfl (rd_iaddr_bx_ 5 rfl ar_58 rfl rfl rfl) ⟨_, _, rfl, rfl, rfl⟩ ?_
  refine AD.r 7 rfl (rd_load_bx rfl ag_3 rfl rfl rfl) ⟨_, _, rfl, rfl, rfl⟩ ?_
  refine AD.r 8 rfl (rd_faddr_bx rfl fo_44_1 rfl rfl ⟨_, _, rfl⟩) ⟨_, _, rfl, rfl, rfl⟩ ?_
  refine AD.r 9 rfl (rd_load_bx rfl ag_3 rfl rfl rfl) ⟨_, _, rfl, rfl, rfl⟩ ?_
  refine AD.r 10 rfl (rd_bin rfl rfl rfl (fun _ => rfl)) ⟨_, _, rfl, rfl, rfl⟩ ?_
  refine AD.r 11 rfl (rd_pick_t rfl rfl rfl) rfl ?_
  refine AD.r 12 rfl (rd_assign rfl rfl) rfl ?_
  refine AD.done (by kernel_rfl) ?_
  change AW _ _ _ _ _
  refine AW.ret ?_
  change ResA _ _ _ _ _
  refine res1 rfl (ResV.tmp rfl) rfl ?_
  rfl
theorem rhas_c (v : VecD) (t : TagD) : AC Try.prog 35 [vecA v, t.av] (fun r => r = .s (AB (hasV v t))) := by
  cases h : tagB t with
  | false => exact rhas_f v t h
  | true =>
    obtain ⟨i, n⟩ := t
    have := (tagB_rep h).1
    simp only at this
    rcases this with rfl | rfl | rfl | rfl | rfl | rfl
    · exact rhas_1 v n h
    · exact rhas_2 v n h
    · exact rhas_3 v n h
    · exact rhas_4 v n h
    · exact rhas_5 v n h
    · exact rhas_6 v n h
def atL (l : List OpD) (t : TagD) : Int := match l.findIdx? (fun o => decide (o.id = t)) with | some i => (i : Int) | none => -1
theorem rat26_c (l : List OpD) (t : TagD) : AC Try.prog 38 [.sl (l.map OpD.cs), t.av] (fun x => x = .s (AI (atL l t))) := by
  change AC _ _ [.sl (l.map OpD.cs), .ag [AI t.rep, AI t.n]] _
  refine AC.of' 18 1 Try.func38 rfl ?_
  change AW _ _ _ _ [TK.mk 0 .off]
  refine AW.seq ?_
  refine AW.region ?_
  refine AL.op rfl (AOpB.op (op_box 0 rfl rfl rfl rfl rfl ?_))
  refine AL.n ?_
  refine AL.ra ?_
  refine AL.nil ?_
  change AW _ _ _ _ _
  refine AW.seq ?_
  refine AW.seq ?_
  refine AW.region ?_
  refine AL.len (x := .tmp 0) rfl (fun hlen => ?_); rw [List.length_map] at hlen; unfold maxLen at hlen
  refine AL.ra ?_
  refine AL.nil ?_
  change AW _ _ _ _ _
  refine AW.block ?_
  refine AW.loopM (ι := Nat) [4, 6, 7, 8, 9, 10, 11, 12, 13, 14, 15, 16, 17, 18, 19] (fun k => [(5, AI (k : Int))]) [] (fun k => []) (fun k => k ≤ l.length ∧ ∀ i (hi : i < l.length), i < k → decide (l[i].id = t) = false) (fun k => l.length - k) 0 (⟨by omega, fun i _ hi => absurd hi (by omega)⟩) (by simp only [anys, upds, offs, List.set_cons_zero, List.set_cons_succ]; repeat (first | exact Wk.nil | refine Wk.same ?_ | refine Wk.any ?_)) (by simp only [anys, upds, offs, List.set_cons_zero, List.set_cons_succ]; repeat (first | exact Sk.nil _ | refine Sk.same _ ?_ | refine Sk.scr _ (by decide) ?_)) ?_
  rintro k gs hJ
  refine AW.norm (by simp only [anys, upds, offs, List.set_cons_zero, List.set_cons_succ]; rfl) (by (try simp only [anys, upds, offs, List.set_cons_zero, List.set_cons_succ]); (try rfl)) ?_
  obtain ⟨hk, hok⟩ := hJ
  refine AW.seq ?_
  refine AW.seq ?_
  refine AW.region ?_
  refine AL.rm ?_
  refine AL.rm ?_
  refine AL.r (rd_len_sl rfl el_50 rfl) ?_
  refine AL.r (rd_bin rfl rfl rfl (fun _ => rfl)) ?_
  refine AL.nil ?_
  change AW _ _ _ _ _
  refine AW.cd rfl (fun h9 => ?_) (fun h9 => ?_)
  ·skip
   refine AW.skip ?_
   change AW _ _ _ _ _
   refine AW.seq ?_
   refine AW.block ?_
   refine AW.seq ?_
   refine AW.draw (by kernel_rfl) ?_
   refine AD.r 0 rfl (rd_move rfl rfl) rfl ?_
   refine AD.r 1 rfl (rd_move rfl rfl) rfl ?_
   refine AD.r 2 rfl (rd_iaddr_sl rfl el_50 rfl rfl rfl (get_mapA (by omega)) rfl) rfl ?_
   refine AD.r 3 rfl (rd_faddr_ep rfl fo_47_0 rfl) rfl ?_
   refine AD.r 4 rfl (rd_loadN_ep rfl ag_44 rfl (Nat.le_of_ble_eq_true rfl) rfl) rfl ?_
   refine AD.r 5 rfl (rd_loadN_bx rfl ag_44 rfl rfl (Nat.le_of_ble_eq_true rfl) rfl) rfl ?_
   refine AD.r 6 rfl (rd_eq_Tag rfl rfl rfl) rfl ?_
   refine AD.done (by kernel_rfl) ?_
   change AW _ _ _ _ _
   refine AW.cd rfl (fun h18 => ?_) (fun h18 => ?_)
   ·skip
    refine AW.seq ?_
    refine AW.region ?_
    refine AL.rm ?_
    refine AL.ra ?_
    refine AL.nil ?_
    change AW _ _ _ _ _
    refine AW.ret ?_
    change ResA _ _ _ _ _
    refine res1 rfl (ResV.tmp rfl) rfl ?_
    (unfold atL; rw [find_some (l := l) (p := fun f => decide (f.id = t)) (by omega) hok (decide_eq_true (show l[k].id = t from h18))])
   ·skip
    refine AW.skip ?_
    change AW _ _ _ _ _
    refine AW.region ?_
    refine AL.rm ?_
    refine AL.r (rd_arith_add rfl rfl rfl (by first | exact IntWalk.i64_in _ (by omega) | rfl)) ?_
    refine AL.ra ?_
    refine AL.nil ?_
    refine ⟨k + 1, ?_, by first | omega | (simp only []; omega), ?_, ?_⟩
    ·exact ⟨by omega, all_nextL (p := fun (y : OpD) => decide (y.id = t) = false) (by omega) hok (decide_eq_false (show ¬ l[k].id = t from h18))⟩
    ·simp only [anys, upds, offs, List.set_cons_zero, List.set_cons_succ]; repeat (first | exact Wk.nil | refine Wk.same ?_ | refine Wk.any ?_)
    ·simp only [anys, upds, offs, List.set_cons_zero, List.set_cons_succ]; repeat (first | exact Sk.nil _ | refine Sk.same _ ?_ | refine Sk.scr _ (by decide) ?_)
  ·skip
   refine AW.exit ?_
   change AW _ _ _ _ _
   refine AW.seq ?_
   refine AW.region ?_
   refine AL.ra ?_
   refine AL.nil ?_
   change AW _ _ _ _ _
   refine AW.ret ?_
   change ResA _ _ _ _ _
   refine res1 rfl (ResV.tmp rfl) rfl ?_
   (unfold atL; rw [find_none (fun i hi => hok i hi (by omega))])
def haveStep (v : VecD) (o : OpD) : VecD := fun i => if i = (o.id.rep - 1).toNat then v i + 1 else v i
def haveR (l : List OpD) : VecD := l.foldl haveStep zeroV
theorem fold_next {α β : Type} {f : β → α → β} {b : β} {l : List α} {k : Nat} (h : k < l.length) : (l.take (k + 1)).foldl f b = f ((l.take k).foldl f b) l[k] := by
  rw [List.take_succ_eq_append_getElem h, List.foldl_append]; rfl
theorem rhave_c (l : List OpD) (hl : l.length ≤ 400) (h : ∀ o ∈ l, rightO o = true) : AC Try.prog 42 [.sl (l.map OpD.cs)] (fun x => x = .s (vecA (haveR l))) := by
  have hb : ∀ k, ∀ i, 0 ≤ ((l.take k).foldl haveStep zeroV) i ∧ ((l.take k).foldl haveStep zeroV) i ≤ k := by
    intro k
    induction k with
    | zero => intro i; simp [zeroV]
    | succ k ih =>
      intro i
      have := ih i
      by_cases hk : k < l.length
      · rw [fold_next hk]; generalize (l.take k).foldl haveStep zeroV = v at this ⊢; unfold haveStep; split <;> omega
      · rw [List.take_of_length_le (by omega)]; rw [List.take_of_length_le (by omega)] at this; omega
  have hr : ∀ k (hk : k < l.length), l[k].id.rep = 1 ∨ l[k].id.rep = 2 ∨ l[k].id.rep = 3 ∨ l[k].id.rep = 4 ∨ l[k].id.rep = 5 ∨ l[k].id.rep = 6 := fun k hk =>
    (tagB_rep (by have := h _ (List.getElem_mem hk); unfold rightO at this; simp only [Bool.and_eq_true] at this; exact this.1.1.1.1.1.1.1.1.1.1.2)).1
  refine AC.of' 23 2 Try.func42 rfl ?_
  change AW _ _ _ _ [TK.mk 0 .off, TK.mk 0 .off]
  refine AW.seq ?_
  refine AW.region ?_
  refine AL.op rfl (AOpB.op (op_alloc 0 rfl ze_58 rfl ?_))
  refine AL.n ?_
  refine AL.nil ?_
  change AW _ _ _ _ _
  refine AW.seq ?_
  refine AW.region ?_
  refine AL.r (rd_buildA rfl ar_58 ze_58 rfl rfl) ?_
  refine AL.op rfl (AOpB.op (op_alloc 1 rfl ze_58 rfl ?_))
  refine AL.n ?_
  refine AL.op rfl (op_store_ rfl rfl rfl rfl rfl sz_58 ?_)
  refine AL.n ?_
  refine AL.nil ?_
  change AW _ _ _ _ _
  refine AW.seq ?_
  refine AW.seq ?_
  refine AW.region ?_
  refine AL.ra ?_
  refine AL.nil ?_
  change AW _ _ _ _ _
  refine AW.block ?_
  refine AW.loopM (ι := Nat × VecD) [6, 7, 8, 9, 10, 11, 12, 13, 14, 15, 16, 17, 18, 19, 20, 21, 22] (fun ⟨k, v⟩ => [(4, AI (k : Int))]) [] (fun ⟨k, v⟩ => [(1, ⟨1, .box 58 [AI (v 0), AI (v 1), AI (v 2), AI (v 3), AI (v 4), AI (v 5)]⟩)]) (fun ⟨k, v⟩ => k ≤ l.length ∧ v = (l.take k).foldl haveStep zeroV) (fun ⟨k, v⟩ => l.length - k) ⟨0, zeroV⟩ (⟨Nat.zero_le _, rfl⟩) (by simp only [anys, upds, offs, List.set_cons_zero, List.set_cons_succ]; repeat (first | exact Wk.nil | refine Wk.same ?_ | refine Wk.any ?_)) (by simp only [anys, upds, offs, List.set_cons_zero, List.set_cons_succ]; repeat (first | exact Sk.nil _ | refine Sk.same _ ?_ | refine Sk.scr _ (by decide) ?_)) ?_
  rintro ⟨k, v⟩ gs hJ
  refine AW.norm (by simp only [anys, upds, offs, List.set_cons_zero, List.set_cons_succ]; rfl) (by (try simp only [anys, upds, offs, List.set_cons_zero, List.set_cons_succ]); (try rfl)) ?_
  obtain ⟨hk, hv⟩ := hJ
  refine AW.seq ?_
  refine AW.seq ?_
  refine AW.region ?_
  refine AL.rm ?_
  refine AL.rm ?_
  refine AL.r (rd_len_sl rfl el_50 rfl) ?_
  refine AL.r (rd_bin rfl rfl rfl (fun _ => rfl)) ?_
  refine AL.nil ?_
  change AW _ _ _ _ _
  refine AW.cd rfl (fun h9 => ?_) (fun h9 => ?_)
  ·skip
   refine AW.skip ?_
   change AW _ _ _ _ _
   refine AW.seq ?_
   refine AW.block ?_
   refine AW.region ?_
   have hkl : k < l.length := (by omega)
   have hb' := hb k
   rw [← hv] at hb'
   have hb0 := hb' 0; have hb1 := hb' 1; have hb2 := hb' 2; have hb3 := hb' 3; have hb4 := hb' 4; have hb5 := hb' 5
   refine AL.rm ?_
   refine AL.rm ?_
   refine AL.r (rd_iaddr_sl rfl el_50 rfl rfl rfl (get_mapA (by omega)) rfl) ?_
   refine AL.r (rd_faddr_ep rfl fo_47_0 rfl) ?_
   refine AL.r (rd_faddr_ep rfl fo_44_0 rfl) ?_
   refine AL.r (rd_load_ep rfl ag_3 rfl rfl) ?_
   rcases hr k hkl with hF | hF | hF | hF | hF | hF <;> rw [hF]
   ·skip
    refine AL.r (rd_arith_sub rfl rfl rfl (rfl : _ = (0 : Int))) ?_
    refine AL.r (rd_iaddr_bx_ 0 rfl ar_58 rfl rfl rfl) ?_
    refine AL.r (rd_load_bx rfl ag_3 rfl rfl rfl) ?_
    refine AL.r (rd_arith_add rfl rfl rfl (by first | exact IntWalk.i64_in _ (by omega) | rfl)) ?_
    refine AL.r (rd_iaddr_bx_ 0 rfl ar_58 rfl rfl rfl) ?_
    refine AL.op rfl (op_store_ rfl rfl rfl rfl rfl sz_3 ?_)
    refine AL.n ?_
    refine AL.nil ?_
    change AW _ _ _ _ _
    refine AW.region ?_
    refine AL.rm ?_
    refine AL.r (rd_arith_add rfl rfl rfl (by first | exact IntWalk.i64_in _ (by omega) | rfl)) ?_
    refine AL.ra ?_
    refine AL.nil ?_
    refine ⟨⟨k + 1, haveStep v (l[k]'(by omega))⟩, ?_, by first | omega | (simp only []; omega), ?_, ?_⟩
    ·exact ⟨by omega, by rw [fold_next (by omega), ← hv]⟩
    ·simp only [anys, upds, offs, List.set_cons_zero, List.set_cons_succ]; repeat (first | exact Wk.nil | refine Wk.same ?_ | refine Wk.any ?_)
    ·simp only [anys, upds, offs, List.set_cons_zero, List.set_cons_succ]; repeat (first | exact Sk.nil _ | refine Sk.same _ ?_ | refine Sk.scr _ (by decide) ?_ | refine Sk.eq _ (by simp [haveStep, hF]) ?_)
   ·skip
    refine AL.r (rd_arith_sub rfl rfl rfl (rfl : _ = (1 : Int))) ?_
    refine AL.r (rd_iaddr_bx_ 1 rfl ar_58 rfl rfl rfl) ?_
    refine AL.r (rd_load_bx rfl ag_3 rfl rfl rfl) ?_
    refine AL.r (rd_arith_add rfl rfl rfl (by first | exact IntWalk.i64_in _ (by omega) | rfl)) ?_
    refine AL.r (rd_iaddr_bx_ 1 rfl ar_58 rfl rfl rfl) ?_
    refine AL.op rfl (op_store_ rfl rfl rfl rfl rfl sz_3 ?_)
    refine AL.n ?_
    refine AL.nil ?_
    change AW _ _ _ _ _
    refine AW.region ?_
    refine AL.rm ?_
    refine AL.r (rd_arith_add rfl rfl rfl (by first | exact IntWalk.i64_in _ (by omega) | rfl)) ?_
    refine AL.ra ?_
    refine AL.nil ?_
    refine ⟨⟨k + 1, haveStep v (l[k]'(by omega))⟩, ?_, by first | omega | (simp only []; omega), ?_, ?_⟩
    ·exact ⟨by omega, by rw [fold_next (by omega), ← hv]⟩
    ·simp only [anys, upds, offs, List.set_cons_zero, List.set_cons_succ]; repeat (first | exact Wk.nil | refine Wk.same ?_ | refine Wk.any ?_)
    ·simp only [anys, upds, offs, List.set_cons_zero, List.set_cons_succ]; repeat (first | exact Sk.nil _ | refine Sk.same _ ?_ | refine Sk.scr _ (by decide) ?_ | refine Sk.eq _ (by simp [haveStep, hF]) ?_)
   ·skip
    refine AL.r (rd_arith_sub rfl rfl rfl (rfl : _ = (2 : Int))) ?_
    refine AL.r (rd_iaddr_bx_ 2 rfl ar_58 rfl rfl rfl) ?_
    refine AL.r (rd_load_bx rfl ag_3 rfl rfl rfl) ?_
    refine AL.r (rd_arith_add rfl rfl rfl (by first | exact IntWalk.i64_in _ (by omega) | rfl)) ?_
    refine AL.r (rd_iaddr_bx_ 2 rfl ar_58 rfl rfl rfl) ?_
    refine AL.op rfl (op_store_ rfl rfl rfl rfl rfl sz_3 ?_)
    refine AL.n ?_
    refine AL.nil ?_
    change AW _ _ _ _ _
    refine AW.region ?_
    refine AL.rm ?_
    refine AL.r (rd_arith_add rfl rfl rfl (by first | exact IntWalk.i64_in _ (by omega) | rfl)) ?_
    refine AL.ra ?_
    refine AL.nil ?_
    refine ⟨⟨k + 1, haveStep v (l[k]'(by omega))⟩, ?_, by first | omega | (simp only []; omega), ?_, ?_⟩
    ·exact ⟨by omega, by rw [fold_next (by omega), ← hv]⟩
    ·simp only [anys, upds, offs, List.set_cons_zero, List.set_cons_succ]; repeat (first | exact Wk.nil | refine Wk.same ?_ | refine Wk.any ?_)
    ·simp only [anys, upds, offs, List.set_cons_zero, List.set_cons_succ]; repeat (first | exact Sk.nil _ | refine Sk.same _ ?_ | refine Sk.scr _ (by decide) ?_ | refine Sk.eq _ (by simp [haveStep, hF]) ?_)
   ·skip
    refine AL.r (rd_arith_sub rfl rfl rfl (rfl : _ = (3 : Int))) ?_
    refine AL.r (rd_iaddr_bx_ 3 rfl ar_58 rfl rfl rfl) ?_
    refine AL.r (rd_load_bx rfl ag_3 rfl rfl rfl) ?_
    refine AL.r (rd_arith_add rfl rfl rfl (by first | exact IntWalk.i64_in _ (by omega) | rfl)) ?_
    refine AL.r (rd_iaddr_bx_ 3 rfl ar_58 rfl rfl rfl) ?_
    refine AL.op rfl (op_store_ rfl rfl rfl rfl rfl sz_3 ?_)
    refine AL.n ?_
    refine AL.nil ?_
    change AW _ _ _ _ _
    refine AW.region ?_
    refine AL.rm ?_
    refine AL.r (rd_arith_add rfl rfl rfl (by first | exact IntWalk.i64_in _ (by omega) | rfl)) ?_
    refine AL.ra ?_
    refine AL.nil ?_
    refine ⟨⟨k + 1, haveStep v (l[k]'(by omega))⟩, ?_, by first | omega | (simp only []; omega), ?_, ?_⟩
    ·exact ⟨by omega, by rw [fold_next (by omega), ← hv]⟩
    ·simp only [anys, upds, offs, List.set_cons_zero, List.set_cons_succ]; repeat (first | exact Wk.nil | refine Wk.same ?_ | refine Wk.any ?_)
    ·simp only [anys, upds, offs, List.set_cons_zero, List.set_cons_succ]; repeat (first | exact Sk.nil _ | refine Sk.same _ ?_ | refine Sk.scr _ (by decide) ?_ | refine Sk.eq _ (by simp [haveStep, hF]) ?_)
   ·skip
    refine AL.r (rd_arith_sub rfl rfl rfl (rfl : _ = (4 : Int))) ?_
    refine AL.r (rd_iaddr_bx_ 4 rfl ar_58 rfl rfl rfl) ?_
    refine AL.r (rd_load_bx rfl ag_3 rfl rfl rfl) ?_
    refine AL.r (rd_arith_add rfl rfl rfl (by first | exact IntWalk.i64_in _ (by omega) | rfl)) ?_
    refine AL.r (rd_iaddr_bx_ 4 rfl ar_58 rfl rfl rfl) ?_
    refine AL.op rfl (op_store_ rfl rfl rfl rfl rfl sz_3 ?_)
    refine AL.n ?_
    refine AL.nil ?_
    change AW _ _ _ _ _
    refine AW.region ?_
    refine AL.rm ?_
    refine AL.r (rd_arith_add rfl rfl rfl (by first | exact IntWalk.i64_in _ (by omega) | rfl)) ?_
    refine AL.ra ?_
    refine AL.nil ?_
    refine ⟨⟨k + 1, haveStep v (l[k]'(by omega))⟩, ?_, by first | omega | (simp only []; omega), ?_, ?_⟩
    ·exact ⟨by omega, by rw [fold_next (by omega), ← hv]⟩
    ·simp only [anys, upds, offs, List.set_cons_zero, List.set_cons_succ]; repeat (first | exact Wk.nil | refine Wk.same ?_ | refine Wk.any ?_)
    ·simp only [anys, upds, offs, List.set_cons_zero, List.set_cons_succ]; repeat (first | exact Sk.nil _ | refine Sk.same _ ?_ | refine Sk.scr _ (by decide) ?_ | refine Sk.eq _ (by simp [haveStep, hF]) ?_)
   ·skip
    refine AL.r (rd_arith_sub rfl rfl rfl (rfl : _ = (5 : Int))) ?_
    refine AL.r (rd_iaddr_bx_ 5 rfl ar_58 rfl rfl rfl) ?_
    refine AL.r (rd_load_bx rfl ag_3 rfl rfl rfl) ?_
    refine AL.r (rd_arith_add rfl rfl rfl (by first | exact IntWalk.i64_in _ (by omega) | rfl)) ?_
    refine AL.r (rd_iaddr_bx_ 5 rfl ar_58 rfl rfl rfl) ?_
    refine AL.op rfl (op_store_ rfl rfl rfl rfl rfl sz_3 ?_)
    refine AL.n ?_
    refine AL.nil ?_
    change AW _ _ _ _ _
    refine AW.region ?_
    refine AL.rm ?_
    refine AL.r (rd_arith_add rfl rfl rfl (by first | exact IntWalk.i64_in _ (by omega) | rfl)) ?_
    refine AL.ra ?_
    refine AL.nil ?_
    refine ⟨⟨k + 1, haveStep v (l[k]'(by omega))⟩, ?_, by first | omega | (simp only []; omega), ?_, ?_⟩
    ·exact ⟨by omega, by rw [fold_next (by omega), ← hv]⟩
    ·simp only [anys, upds, offs, List.set_cons_zero, List.set_cons_succ]; repeat (first | exact Wk.nil | refine Wk.same ?_ | refine Wk.any ?_)
    ·simp only [anys, upds, offs, List.set_cons_zero, List.set_cons_succ]; repeat (first | exact Sk.nil _ | refine Sk.same _ ?_ | refine Sk.scr _ (by decide) ?_ | refine Sk.eq _ (by simp [haveStep, hF]) ?_)
  ·skip
   refine AW.exit ?_
   change AW _ _ _ _ _
   refine AW.seq ?_
   refine AW.region ?_
   refine AL.r (rd_loadN_bx rfl ag_58 rfl rfl (Nat.le_of_ble_eq_true rfl) rfl) ?_
   refine AL.op rfl (op_store_ rfl rfl rfl rfl rfl sz_58 ?_)
   refine AL.n ?_
   refine AL.nil ?_
   change AW _ _ _ _ _
   refine AW.ret ?_
   change ResA _ _ _ _ _
   refine res1 rfl (ResV.cells rfl rfl ag_58 (Nat.le_of_ble_eq_true rfl) rfl) rfl ?_
   rw [List.take_of_length_le (by omega)] at hv; rw [hv]; rfl
def clockR (l : List OpD) : Int := l.foldl stepT 0
theorem rclock_c (l : List OpD) : AC Try.prog 44 [.sl (l.map OpD.cs)] (fun x => x = .s (AI (clockR l))) := by
  refine AC.of' 23 0 Try.func44 rfl ?_
  change AW _ _ _ _ []
  refine AW.seq ?_
  refine AW.region ?_
  refine AL.ra ?_
  refine AL.nil ?_
  change AW _ _ _ _ _
  refine AW.seq ?_
  refine AW.region ?_
  refine AL.len (x := .tmp 0) rfl (fun hlen => ?_); rw [List.length_map] at hlen; unfold maxLen at hlen
  refine AL.ra ?_
  refine AL.nil ?_
  change AW _ _ _ _ _
  refine AW.seq ?_
  refine AW.seq ?_
  refine AW.region ?_
  refine AL.ra ?_
  refine AL.nil ?_
  change AW _ _ _ _ _
  refine AW.block ?_
  refine AW.loopM (ι := Nat × Int) [5, 6, 7, 8, 9, 10, 11, 12, 13, 14, 15, 16, 17, 18, 19, 20, 21, 22] (fun ⟨k, c⟩ => [(4, AI (k : Int)), (3, AI c)]) [] (fun ⟨k, c⟩ => []) (fun ⟨k, c⟩ => k ≤ l.length ∧ c = (l.take k).foldl stepT 0) (fun ⟨k, c⟩ => l.length - k) ⟨0, 0⟩ (⟨Nat.zero_le _, rfl⟩) (by simp only [anys, upds, offs, List.set_cons_zero, List.set_cons_succ]; repeat (first | exact Wk.nil | refine Wk.same ?_ | refine Wk.any ?_)) (by simp only [anys, upds, offs, List.set_cons_zero, List.set_cons_succ]; repeat (first | exact Sk.nil _ | refine Sk.same _ ?_ | refine Sk.scr _ (by decide) ?_)) ?_
  rintro ⟨k, c⟩ gs hJ
  refine AW.norm (by simp only [anys, upds, offs, List.set_cons_zero, List.set_cons_succ]; rfl) (by (try simp only [anys, upds, offs, List.set_cons_zero, List.set_cons_succ]); (try rfl)) ?_
  obtain ⟨hk, hv⟩ := hJ
  refine AW.seq ?_
  refine AW.seq ?_
  refine AW.region ?_
  refine AL.rm ?_
  refine AL.rm ?_
  refine AL.r (rd_len_sl rfl el_50 rfl) ?_
  refine AL.r (rd_bin rfl rfl rfl (fun _ => rfl)) ?_
  refine AL.nil ?_
  change AW _ _ _ _ _
  refine AW.cd rfl (fun h8 => ?_) (fun h8 => ?_)
  ·skip
   refine AW.skip ?_
   change AW _ _ _ _ _
   refine AW.seq ?_
   refine AW.block ?_
   refine AW.seq ?_
   refine AW.region ?_
   refine AL.rm ?_
   refine AL.rm ?_
   refine AL.r (rd_iaddr_sl rfl el_50 rfl rfl rfl (get_mapA (by omega)) rfl) ?_
   refine AL.r (rd_faddr_ep rfl fo_47_2 rfl) ?_
   refine AL.r (rd_load_ep rfl ag_2 rfl rfl) ?_
   refine AL.rm ?_
   refine AL.r (rd_bin rfl rfl rfl (fun _ => rfl)) ?_
   refine AL.nil ?_
   change AW _ _ _ _ _
   refine AW.cd rfl (fun h17 => ?_) (fun h17 => ?_)
   ·skip
    refine AW.region ?_
    refine AL.rm ?_
    refine AL.rm ?_
    refine AL.r (rd_iaddr_sl rfl el_50 rfl rfl rfl (get_mapA (by omega)) rfl) ?_
    refine AL.r (rd_faddr_ep rfl fo_47_2 rfl) ?_
    refine AL.r (rd_load_ep rfl ag_2 rfl rfl) ?_
    refine AL.ra ?_
    refine AL.nil ?_
    change AW _ _ _ _ _
    refine AW.region ?_
    refine AL.rm ?_
    refine AL.r (rd_arith_add rfl rfl rfl (by first | exact IntWalk.i64_in _ (by omega) | rfl)) ?_
    refine AL.ra ?_
    refine AL.nil ?_
    first
      | refine ⟨⟨k + 1, (l[k]'(by omega)).time⟩, ?_, ?_, ?_, ?_⟩
        ·exact ⟨by omega, by rw [fold_next (by omega), ← hv]; unfold stepT; rw [if_pos (by omega)]⟩
        ·first | omega | (simp only []; omega)
        ·simp only [anys, upds, offs, List.set_cons_zero, List.set_cons_succ]; repeat (first | exact Wk.nil | refine Wk.same ?_ | refine Wk.any ?_)
        ·simp only [anys, upds, offs, List.set_cons_zero, List.set_cons_succ]; repeat (first | exact Sk.nil _ | refine Sk.same _ ?_ | refine Sk.scr _ (by decide) ?_)
      | refine ⟨⟨k + 1, c⟩, ?_, ?_, ?_, ?_⟩
        ·exact ⟨by omega, by rw [fold_next (by omega), ← hv]; unfold stepT; rw [if_neg (by omega)]⟩
        ·first | omega | (simp only []; omega)
        ·simp only [anys, upds, offs, List.set_cons_zero, List.set_cons_succ]; repeat (first | exact Wk.nil | refine Wk.same ?_ | refine Wk.any ?_)
        ·simp only [anys, upds, offs, List.set_cons_zero, List.set_cons_succ]; repeat (first | exact Sk.nil _ | refine Sk.same _ ?_ | refine Sk.scr _ (by decide) ?_)
   ·skip
    refine AW.skip ?_
    change AW _ _ _ _ _
    refine AW.region ?_
    refine AL.rm ?_
    refine AL.r (rd_arith_add rfl rfl rfl (by first | exact IntWalk.i64_in _ (by omega) | rfl)) ?_
    refine AL.ra ?_
    refine AL.nil ?_
    refine ⟨⟨k + 1, c⟩, ?_, by first | omega | (simp only []; omega), ?_, ?_⟩
    ·exact ⟨by omega, by rw [fold_next (by omega), ← hv]; unfold stepT; rw [if_neg (by omega)]⟩
    ·simp only [anys, upds, offs, List.set_cons_zero, List.set_cons_succ]; repeat (first | exact Wk.nil | refine Wk.same ?_ | refine Wk.any ?_)
    ·simp only [anys, upds, offs, List.set_cons_zero, List.set_cons_succ]; repeat (first | exact Sk.nil _ | refine Sk.same _ ?_ | refine Sk.scr _ (by decide) ?_)
  ·skip
   refine AW.exit ?_
   change AW _ _ _ _ _
   refine AW.seq ?_
   refine AW.region ?_
   refine AL.rm ?_
   refine AL.ra ?_
   refine AL.nil ?_
   change AW _ _ _ _ _
   refine AW.ret ?_
   change ResA _ _ _ _ _
   refine res1 rfl (ResV.tmp rfl) rfl ?_
   rw [List.take_of_length_le (by omega)] at hv; rw [hv]; rfl
end Go.Proofs.Ytfjnkhanndkpfaa
