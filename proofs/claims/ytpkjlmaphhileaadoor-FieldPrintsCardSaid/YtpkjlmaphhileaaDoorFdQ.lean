/- The law FieldPrints, walked. No conditions. -/
import Derived.Test.YtpkjlmaphhileaaDoorFdC
import Derived.Test.YtpkjlmaphhileaaDoorOpF
import Derived.Test.YtpkjlmaphhileaaDoorCut
namespace Go.Proofs.YtpkjlmaphhileaaDoor
set_option linter.unusedSimpArgs false
set_option linter.unusedVariables false
set_option maxRecDepth 100000
open Go.RowKit

theorem print_len (r : RefD) : (printB r).length ≤ 1000 := by
  by_cases h : placeB r = true
  · have hl := place_len h
    rw [print_eq h]
    have hw := word_len r
    unfold restB
    split <;> simp [hw] <;> omega
  · unfold printB; rw [if_neg h]; simp
/-- A place that is not right is printed as what nobody reads. -/
theorem print_bad {r : RefD} (h : placeB r = false) : readP (printB r) = (⟨0, [], []⟩, 4) := by
  have e : printB r = [63] := by unfold printB; rw [if_neg (by rw [h]; decide)]
  rw [e]
  decide +kernel
set_option maxHeartbeats 1000000 in
theorem fprints_c (r : RefD) (s : Bytes) : AC Tryd.prog 3 [r.av, AS s] (fun x => x = .s (AB true)) := by
  refine AC.of' 100 4 Tryd.func3 rfl ?_
  change AW _ _ _ _ [TK.mk 0 .off, TK.mk 0 .off, TK.mk 0 .off, TK.mk 0 .off]
  refine AW.seq ?_
  refine AW.region ?_
  refine AL.op rfl (AOpB.op (op_box 0 rfl rfl rfl rfl rfl ?_))
  refine AL.n ?_
  refine AL.ra ?_
  refine AL.nil ?_
  change AW _ _ _ _ _
  refine AW.seq ?_
  refine AW.seq ?_
  refine AW.region ?_
  refine AL.op rfl (AOpB.op (op_call (awake_c) rfl (by kernel_rfl) rfl (none) ?_))
  rintro r rfl
  refine AL.n ?_
  refine AL.r (rd_un rfl rfl (fun _ => rfl)) ?_
  refine AL.nil ?_
  change AW _ _ _ _ _
  refine AW.cd rfl (fun h13 => ?_) (fun h13 => ?_)
  ·skip
   refine AW.seq ?_
   cases h13
  ·skip
   refine AW.skip ?_
   change AW _ _ _ _ _
   refine AW.seq ?_
   refine AW.seq ?_
   refine AW.region ?_
   refine AL.r (rd_faddr_bx rfl fo_23_1 rfl rfl ⟨_, _, rfl⟩) ?_
   refine AL.r (rd_load_bx rfl ag_9 rfl rfl rfl) ?_
   refine AL.r (rd_len_str rfl str_9 rfl) ?_
   refine AL.r (rd_bin rfl rfl rfl (fun _ => rfl)) ?_
   refine AL.rm ?_
   refine AL.fk (d := 18) rfl (fun h18 => ?_) (fun h18 => ?_)
   ·skip
    refine AL.n ?_
    refine AL.rf ?_
    refine AL.rf ?_
    refine AL.rf ?_
    refine AL.rf ?_
    refine AL.r (rd_pick_t rfl rfl rfl) ?_
    refine AL.rm ?_
    refine AL.rf ?_
    refine AL.rf ?_
    refine AL.rf ?_
    refine AL.r (rd_pick_t rfl rfl rfl) ?_
    refine AL.nil ?_
    change AW _ _ _ _ _
    refine AW.cond_t rfl ?_
    refine AW.seq ?_
    refine AW.region ?_
    refine AL.ra ?_
    refine AL.nil ?_
    change AW _ _ _ _ _
    refine AW.ret ?_
    change ResA _ _ _ _ _
    refine res1 rfl (ResV.tmp rfl) rfl ?_
    first | rfl | (have hb := @print_bad r; have hy := @readP_yes r; rcases readP_cases s with ⟨c1, c2, c3⟩ | c <;> cases hp : placeB r <;> simp_all; done)
   ·skip
    refine AL.n ?_
    refine AL.ro (rd_faddr_bx rfl fo_23_2 rfl rfl ⟨_, _, rfl⟩) ?_
    refine AL.ro (rd_load_bx rfl ag_9 rfl rfl rfl) ?_
    refine AL.ro (rd_len_str rfl str_9 rfl) ?_
    refine AL.ro (rd_bin rfl rfl rfl (fun _ => rfl)) ?_
    refine AL.r (rd_pick_f rfl rfl rfl) ?_
    refine AL.rm ?_
    refine AL.fk (d := 24) rfl (fun h24 => ?_) (fun h24 => ?_)
    ·skip
     refine AL.n ?_
     refine AL.rf ?_
     refine AL.rf ?_
     refine AL.rf ?_
     refine AL.r (rd_pick_t rfl rfl rfl) ?_
     refine AL.nil ?_
     change AW _ _ _ _ _
     refine AW.cond_t rfl ?_
     refine AW.seq ?_
     refine AW.region ?_
     refine AL.ra ?_
     refine AL.nil ?_
     change AW _ _ _ _ _
     refine AW.ret ?_
     change ResA _ _ _ _ _
     refine res1 rfl (ResV.tmp rfl) rfl ?_
     first | rfl | (have hb := @print_bad r; have hy := @readP_yes r; rcases readP_cases s with ⟨c1, c2, c3⟩ | c <;> cases hp : placeB r <;> simp_all; done)
    ·skip
     refine AL.n ?_
     refine AL.ro (rd_move rfl rfl) ?_
     refine AL.ro (rd_len_str rfl str_9 rfl) ?_
     refine AL.ro (rd_bin rfl rfl rfl (fun _ => rfl)) ?_
     refine AL.r (rd_pick_f rfl rfl rfl) ?_
     refine AL.nil ?_
     change AW _ _ _ _ _
     refine AW.cd rfl (fun h28 => ?_) (fun h28 => ?_)
     ·skip
      refine AW.seq ?_
      refine AW.region ?_
      refine AL.ra ?_
      refine AL.nil ?_
      change AW _ _ _ _ _
      refine AW.ret ?_
      change ResA _ _ _ _ _
      refine res1 rfl (ResV.tmp rfl) rfl ?_
      first | rfl | (have hb := @print_bad r; have hy := @readP_yes r; rcases readP_cases s with ⟨c1, c2, c3⟩ | c <;> cases hp : placeB r <;> simp_all; done)
     ·skip
      refine AW.skip ?_
      change AW _ _ _ _ _
      refine AW.seq ?_
      refine AW.region ?_
      refine AL.r (rd_loadN_bx rfl ag_23 rfl rfl (Nat.le_of_ble_eq_true rfl) rfl) ?_
      refine AL.op rfl (AOpB.op (op_call (fprint_c r) rfl (by kernel_rfl) rfl (none) ?_))
      rintro r rfl
      refine AL.n ?_
      refine AL.ra ?_
      refine AL.nil ?_
      change AW _ _ _ _ _
      refine AW.seq ?_
      refine AW.region ?_
      refine AL.rm ?_
      refine AL.op rfl (AOpB.op (op_call (fread_c _ (print_len r)) rfl (by kernel_rfl) rfl (none) ?_))
      rintro r rfl
      refine AL.n ?_
      refine AL.rm ?_
      refine AL.r (rd_extract rfl rfl rfl) ?_
      refine AL.r (rd_extract rfl rfl rfl) ?_
      refine AL.op rfl (AOpB.op (op_alloc 1 rfl ze_23 rfl ?_))
      refine AL.n ?_
      refine AL.op rfl (op_store_ rfl rfl rfl rfl rfl sz_23 ?_)
      refine AL.b ?_
      refine AL.ra ?_
      refine AL.nil ?_
      change AW _ _ _ _ _
      refine AW.seq ?_
      refine AW.region ?_
      refine AL.rm ?_
      refine AL.op rfl (AOpB.op (op_call (fread_c s (by omega)) rfl (by kernel_rfl) rfl (none) ?_))
      rintro r rfl
      refine AL.n ?_
      refine AL.rm ?_
      refine AL.r (rd_extract rfl rfl rfl) ?_
      refine AL.r (rd_extract rfl rfl rfl) ?_
      refine AL.op rfl (AOpB.op (op_alloc 2 rfl ze_23 rfl ?_))
      refine AL.n ?_
      refine AL.op rfl (op_store_ rfl rfl rfl rfl rfl sz_23 ?_)
      refine AL.b ?_
      refine AL.ra ?_
      refine AL.nil ?_
      change AW _ _ _ _ _
      refine AW.seq ?_
      refine AW.region ?_
      refine AL.rm ?_
      refine AL.op rfl (AOpB.op (op_call (rread_c s (by omega)) rfl (by kernel_rfl) rfl (none) ?_))
      rintro r rfl
      refine AL.n ?_
      refine AL.rm ?_
      refine AL.r (rd_extract rfl rfl rfl) ?_
      refine AL.r (rd_extract rfl rfl rfl) ?_
      refine AL.op rfl (AOpB.op (op_alloc 3 rfl ze_23 rfl ?_))
      refine AL.n ?_
      refine AL.op rfl (op_store_ rfl rfl rfl rfl rfl sz_23 ?_)
      refine AL.b ?_
      refine AL.ra ?_
      refine AL.nil ?_
      change AW _ _ _ _ _
      refine AW.seq ?_
      refine AW.seq ?_
      refine AW.draw (by kernel_rfl) ?_
      refine AD.r 0 rfl (rd_loadN_bx rfl ag_23 rfl rfl (Nat.le_of_ble_eq_true rfl) rfl) rfl ?_
      refine AD.r 2 rfl (rd_loadN_bx rfl ag_23 rfl rfl (Nat.le_of_ble_eq_true rfl) rfl) rfl ?_
      refine AD.move 1 rfl (by kernel_rfl) rfl (op_call (place_c r) rfl (by kernel_rfl) rfl (none) ?_)
      rintro r rfl
      refine AD.n ?_
      refine AD.move 3 rfl (by kernel_rfl) rfl (op_call (rplace_c r) rfl (by kernel_rfl) rfl (none) ?_)
      rintro r rfl
      refine AD.n ?_
      refine AD.r 4 rfl (rd_bneq rfl bo_4 rfl rfl) rfl ?_
      refine AD.r 5 rfl (rd_move rfl rfl) rfl ?_
      refine AD.fk (d := 51) rfl (fun h51 => ?_) (fun h51 => ?_)
      ·skip
       refine AD.n ?_
       refine AD.s 6 rfl ⟨_, _, rfl, rfl, rfl⟩ ?_
       refine AD.s 7 rfl ⟨_, _, rfl, rfl, rfl⟩ ?_
       refine AD.s 8 rfl ⟨_, _, rfl, rfl, rfl⟩ ?_
       refine AD.s 9 rfl ⟨_, _, rfl, rfl, rfl⟩ ?_
       refine AD.r 10 rfl (rd_pick_t rfl rfl rfl) rfl ?_
       refine AD.r 11 rfl (rd_move rfl rfl) rfl ?_
       refine AD.s 12 rfl ⟨_, _, rfl, rfl, rfl⟩ ?_
       refine AD.s 13 rfl ⟨_, _, rfl, rfl, rfl⟩ ?_
       refine AD.s 14 rfl ⟨_, _, rfl, rfl, rfl⟩ ?_
       refine AD.r 15 rfl (rd_pick_t rfl rfl rfl) rfl ?_
       refine AD.r 16 rfl (rd_move rfl rfl) rfl ?_
       refine AD.s 17 rfl ⟨_, _, rfl, rfl, rfl⟩ ?_
       refine AD.s 18 rfl ⟨_, _, rfl, rfl, rfl⟩ ?_
       refine AD.s 19 rfl ⟨_, _, rfl, rfl, rfl⟩ ?_
       refine AD.s 20 rfl ⟨_, _, rfl, rfl, rfl⟩ ?_
       refine AD.r 21 rfl (rd_pick_t rfl rfl rfl) rfl ?_
       refine AD.r 22 rfl (rd_move rfl rfl) rfl ?_
       refine AD.s 23 rfl ⟨_, _, rfl, rfl, rfl⟩ ?_
       refine AD.s 24 rfl ⟨_, _, rfl, rfl, rfl⟩ ?_
       refine AD.s 25 rfl ⟨_, _, rfl, rfl, rfl⟩ ?_
       refine AD.s 26 rfl ⟨_, _, rfl, rfl, rfl⟩ ?_
       refine AD.s 27 rfl ⟨_, _, rfl, rfl, rfl⟩ ?_
       refine AD.s 28 rfl ⟨_, _, rfl, rfl, rfl⟩ ?_
       refine AD.r 29 rfl (rd_pick_t rfl rfl rfl) rfl ?_
       refine AD.r 30 rfl (rd_move rfl rfl) rfl ?_
       refine AD.s 31 rfl ⟨_, _, rfl, rfl, rfl⟩ ?_
       refine AD.s 32 rfl ⟨_, _, rfl, rfl, rfl⟩ ?_
       refine AD.s 33 rfl ⟨_, _, rfl, rfl, rfl⟩ ?_
       refine AD.s 34 rfl ⟨_, _, rfl, rfl, rfl⟩ ?_
       refine AD.s 35 rfl ⟨_, _, rfl, rfl, rfl⟩ ?_
       refine AD.s 36 rfl ⟨_, _, rfl, rfl, rfl⟩ ?_
       refine AD.s 37 rfl ⟨_, _, rfl, rfl, rfl⟩ ?_
       refine AD.r 38 rfl (rd_pick_t rfl rfl rfl) rfl ?_
       refine AD.done (by kernel_rfl) ?_
       change AW _ _ _ _ _
       refine AW.cond_t rfl ?_
       refine AW.seq ?_
       refine AW.region ?_
       refine AL.ra ?_
       refine AL.nil ?_
       change AW _ _ _ _ _
       refine AW.ret ?_
       change ResA _ _ _ _ _
       refine res1 rfl (ResV.tmp rfl) rfl ?_
       first | rfl | (have hb := @print_bad r; have hy := @readP_yes r; rcases readP_cases s with ⟨c1, c2, c3⟩ | c <;> cases hp : placeB r <;> simp_all; done)
      ·skip
       refine AD.n ?_
       refine AD.r 6 rfl (rd_move rfl rfl) ⟨_, _, rfl, rfl, rfl⟩ ?_
       refine AD.r 7 rfl (rd_loadN_bx rfl ag_23 rfl rfl (Nat.le_of_ble_eq_true rfl) rfl) ⟨_, _, rfl, rfl, rfl⟩ ?_
       refine AD.move 8 rfl (by kernel_rfl) ⟨_, _, rfl, rfl, rfl⟩ (op_call (rprint_c r) rfl (by kernel_rfl) rfl (none) ?_)
       rintro r rfl
       refine AD.n ?_
       refine AD.r 9 rfl (rd_sne rfl rfl rfl) ⟨_, _, rfl, rfl, rfl⟩ ?_
       refine AD.r 10 rfl (rd_pick_f rfl rfl rfl) rfl ?_
       refine AD.r 11 rfl (rd_move rfl rfl) rfl ?_
       refine AD.fk (d := 57) rfl (fun h57 => ?_) (fun h57 => ?_)
       ·skip
        refine AD.n ?_
        refine AD.s 12 rfl ⟨_, _, rfl, rfl, rfl⟩ ?_
        refine AD.s 13 rfl ⟨_, _, rfl, rfl, rfl⟩ ?_
        refine AD.s 14 rfl ⟨_, _, rfl, rfl, rfl⟩ ?_
        refine AD.r 15 rfl (rd_pick_t rfl rfl rfl) rfl ?_
        refine AD.r 16 rfl (rd_move rfl rfl) rfl ?_
        refine AD.s 17 rfl ⟨_, _, rfl, rfl, rfl⟩ ?_
        refine AD.s 18 rfl ⟨_, _, rfl, rfl, rfl⟩ ?_
        refine AD.s 19 rfl ⟨_, _, rfl, rfl, rfl⟩ ?_
        refine AD.s 20 rfl ⟨_, _, rfl, rfl, rfl⟩ ?_
        refine AD.r 21 rfl (rd_pick_t rfl rfl rfl) rfl ?_
        refine AD.r 22 rfl (rd_move rfl rfl) rfl ?_
        refine AD.s 23 rfl ⟨_, _, rfl, rfl, rfl⟩ ?_
        refine AD.s 24 rfl ⟨_, _, rfl, rfl, rfl⟩ ?_
        refine AD.s 25 rfl ⟨_, _, rfl, rfl, rfl⟩ ?_
        refine AD.s 26 rfl ⟨_, _, rfl, rfl, rfl⟩ ?_
        refine AD.s 27 rfl ⟨_, _, rfl, rfl, rfl⟩ ?_
        refine AD.s 28 rfl ⟨_, _, rfl, rfl, rfl⟩ ?_
        refine AD.r 29 rfl (rd_pick_t rfl rfl rfl) rfl ?_
        refine AD.r 30 rfl (rd_move rfl rfl) rfl ?_
        refine AD.s 31 rfl ⟨_, _, rfl, rfl, rfl⟩ ?_
        refine AD.s 32 rfl ⟨_, _, rfl, rfl, rfl⟩ ?_
        refine AD.s 33 rfl ⟨_, _, rfl, rfl, rfl⟩ ?_
        refine AD.s 34 rfl ⟨_, _, rfl, rfl, rfl⟩ ?_
        refine AD.s 35 rfl ⟨_, _, rfl, rfl, rfl⟩ ?_
        refine AD.s 36 rfl ⟨_, _, rfl, rfl, rfl⟩ ?_
        refine AD.s 37 rfl ⟨_, _, rfl, rfl, rfl⟩ ?_
        refine AD.r 38 rfl (rd_pick_t rfl rfl rfl) rfl ?_
        refine AD.done (by kernel_rfl) ?_
        change AW _ _ _ _ _
        refine AW.cond_t rfl ?_
        refine AW.seq ?_
        refine AW.region ?_
        refine AL.ra ?_
        refine AL.nil ?_
        change AW _ _ _ _ _
        refine AW.ret ?_
        change ResA _ _ _ _ _
        refine res1 rfl (ResV.tmp rfl) rfl ?_
        first | rfl | (have hb := @print_bad r; have hy := @readP_yes r; rcases readP_cases s with ⟨c1, c2, c3⟩ | c <;> cases hp : placeB r <;> simp_all; done)
       ·skip
        refine AD.n ?_
        refine AD.r 12 rfl (rd_loadN_bx rfl ag_23 rfl rfl (Nat.le_of_ble_eq_true rfl) rfl) ⟨_, _, rfl, rfl, rfl⟩ ?_
        refine AD.r 13 rfl (rd_loadN_bx rfl ag_23 rfl rfl (Nat.le_of_ble_eq_true rfl) rfl) ⟨_, _, rfl, rfl, rfl⟩ ?_
        refine AD.r 14 rfl (rd_ne_Ref rfl rfl rfl) ⟨_, _, rfl, rfl, rfl⟩ ?_
        refine AD.r 15 rfl (rd_pick_f rfl rfl rfl) rfl ?_
        refine AD.r 16 rfl (rd_move rfl rfl) rfl ?_
        refine AD.fk (d := 62) rfl (fun h62 => ?_) (fun h62 => ?_)
        ·skip
         refine AD.n ?_
         refine AD.s 17 rfl ⟨_, _, rfl, rfl, rfl⟩ ?_
         refine AD.s 18 rfl ⟨_, _, rfl, rfl, rfl⟩ ?_
         refine AD.s 19 rfl ⟨_, _, rfl, rfl, rfl⟩ ?_
         refine AD.s 20 rfl ⟨_, _, rfl, rfl, rfl⟩ ?_
         refine AD.r 21 rfl (rd_pick_t rfl rfl rfl) rfl ?_
         refine AD.r 22 rfl (rd_move rfl rfl) rfl ?_
         refine AD.s 23 rfl ⟨_, _, rfl, rfl, rfl⟩ ?_
         refine AD.s 24 rfl ⟨_, _, rfl, rfl, rfl⟩ ?_
         refine AD.s 25 rfl ⟨_, _, rfl, rfl, rfl⟩ ?_
         refine AD.s 26 rfl ⟨_, _, rfl, rfl, rfl⟩ ?_
         refine AD.s 27 rfl ⟨_, _, rfl, rfl, rfl⟩ ?_
         refine AD.s 28 rfl ⟨_, _, rfl, rfl, rfl⟩ ?_
         refine AD.r 29 rfl (rd_pick_t rfl rfl rfl) rfl ?_
         refine AD.r 30 rfl (rd_move rfl rfl) rfl ?_
         refine AD.s 31 rfl ⟨_, _, rfl, rfl, rfl⟩ ?_
         refine AD.s 32 rfl ⟨_, _, rfl, rfl, rfl⟩ ?_
         refine AD.s 33 rfl ⟨_, _, rfl, rfl, rfl⟩ ?_
         refine AD.s 34 rfl ⟨_, _, rfl, rfl, rfl⟩ ?_
         refine AD.s 35 rfl ⟨_, _, rfl, rfl, rfl⟩ ?_
         refine AD.s 36 rfl ⟨_, _, rfl, rfl, rfl⟩ ?_
         refine AD.s 37 rfl ⟨_, _, rfl, rfl, rfl⟩ ?_
         refine AD.r 38 rfl (rd_pick_t rfl rfl rfl) rfl ?_
         refine AD.done (by kernel_rfl) ?_
         change AW _ _ _ _ _
         refine AW.cond_t rfl ?_
         refine AW.seq ?_
         refine AW.region ?_
         refine AL.ra ?_
         refine AL.nil ?_
         change AW _ _ _ _ _
         refine AW.ret ?_
         change ResA _ _ _ _ _
         refine res1 rfl (ResV.tmp rfl) rfl ?_
         first | rfl | (have hb := @print_bad r; have hy := @readP_yes r; rcases readP_cases s with ⟨c1, c2, c3⟩ | c <;> cases hp : placeB r <;> simp_all; done)
        ·skip
         refine AD.n ?_
         refine AD.r 17 rfl (rd_move rfl rfl) ⟨_, _, rfl, rfl, rfl⟩ ?_
         refine AD.r 18 rfl (rd_move rfl rfl) ⟨_, _, rfl, rfl, rfl⟩ ?_
         refine AD.r 19 rfl (rd_bin rfl rfl rfl (fun _ => rfl)) ⟨_, _, rfl, rfl, rfl⟩ ?_
         refine AD.r 20 rfl (rd_bneq rfl bo_4 rfl rfl) ⟨_, _, rfl, rfl, rfl⟩ ?_
         refine AD.r 21 rfl (rd_pick_f rfl rfl rfl) rfl ?_
         refine AD.r 22 rfl (rd_move rfl rfl) rfl ?_
         refine AD.fk (d := 68) rfl (fun h68 => ?_) (fun h68 => ?_)
         ·skip
          refine AD.n ?_
          refine AD.s 23 rfl ⟨_, _, rfl, rfl, rfl⟩ ?_
          refine AD.s 24 rfl ⟨_, _, rfl, rfl, rfl⟩ ?_
          refine AD.s 25 rfl ⟨_, _, rfl, rfl, rfl⟩ ?_
          refine AD.s 26 rfl ⟨_, _, rfl, rfl, rfl⟩ ?_
          refine AD.s 27 rfl ⟨_, _, rfl, rfl, rfl⟩ ?_
          refine AD.s 28 rfl ⟨_, _, rfl, rfl, rfl⟩ ?_
          refine AD.r 29 rfl (rd_pick_t rfl rfl rfl) rfl ?_
          refine AD.r 30 rfl (rd_move rfl rfl) rfl ?_
          refine AD.s 31 rfl ⟨_, _, rfl, rfl, rfl⟩ ?_
          refine AD.s 32 rfl ⟨_, _, rfl, rfl, rfl⟩ ?_
          refine AD.s 33 rfl ⟨_, _, rfl, rfl, rfl⟩ ?_
          refine AD.s 34 rfl ⟨_, _, rfl, rfl, rfl⟩ ?_
          refine AD.s 35 rfl ⟨_, _, rfl, rfl, rfl⟩ ?_
          refine AD.s 36 rfl ⟨_, _, rfl, rfl, rfl⟩ ?_
          refine AD.s 37 rfl ⟨_, _, rfl, rfl, rfl⟩ ?_
          refine AD.r 38 rfl (rd_pick_t rfl rfl rfl) rfl ?_
          refine AD.done (by kernel_rfl) ?_
          change AW _ _ _ _ _
          refine AW.cond_t rfl ?_
          refine AW.seq ?_
          refine AW.region ?_
          refine AL.ra ?_
          refine AL.nil ?_
          change AW _ _ _ _ _
          refine AW.ret ?_
          change ResA _ _ _ _ _
          refine res1 rfl (ResV.tmp rfl) rfl ?_
          first | rfl | (have hb := @print_bad r; have hy := @readP_yes r; rcases readP_cases s with ⟨c1, c2, c3⟩ | c <;> cases hp : placeB r <;> simp_all; done)
         ·skip
          refine AD.n ?_
          refine AD.r 23 rfl (rd_move rfl rfl) ⟨_, _, rfl, rfl, rfl⟩ ?_
          refine AD.r 24 rfl (rd_un rfl rfl (fun _ => rfl)) ⟨_, _, rfl, rfl, rfl⟩ ?_
          refine AD.r 25 rfl (rd_move rfl rfl) ⟨_, _, rfl, rfl, rfl⟩ ?_
          refine AD.fk (d := 71) rfl (fun h71 => ?_) (fun h71 => ?_)
          ·skip
           refine AD.n ?_
           refine AD.r 26 rfl (rd_move rfl rfl) ⟨_, _, rfl, rfl, rfl⟩ ?_
           refine AD.r 27 rfl (rd_bin rfl rfl rfl (fun _ => rfl)) ⟨_, _, rfl, rfl, rfl⟩ ?_
           refine AD.r 28 rfl (rd_pick_t rfl rfl rfl) ⟨_, _, rfl, rfl, rfl⟩ ?_
           refine AD.r 29 rfl (rd_pick_f rfl rfl rfl) rfl ?_
           refine AD.r 30 rfl (rd_move rfl rfl) rfl ?_
           refine AD.fk (d := 76) rfl (fun h76 => ?_) (fun h76 => ?_)
           ·skip
            refine AD.n ?_
            refine AD.s 31 rfl ⟨_, _, rfl, rfl, rfl⟩ ?_
            refine AD.s 32 rfl ⟨_, _, rfl, rfl, rfl⟩ ?_
            refine AD.s 33 rfl ⟨_, _, rfl, rfl, rfl⟩ ?_
            refine AD.s 34 rfl ⟨_, _, rfl, rfl, rfl⟩ ?_
            refine AD.s 35 rfl ⟨_, _, rfl, rfl, rfl⟩ ?_
            refine AD.s 36 rfl ⟨_, _, rfl, rfl, rfl⟩ ?_
            refine AD.s 37 rfl ⟨_, _, rfl, rfl, rfl⟩ ?_
            refine AD.r 38 rfl (rd_pick_t rfl rfl rfl) rfl ?_
            refine AD.done (by kernel_rfl) ?_
            change AW _ _ _ _ _
            refine AW.cond_t rfl ?_
            refine AW.seq ?_
            refine AW.region ?_
            refine AL.ra ?_
            refine AL.nil ?_
            change AW _ _ _ _ _
            refine AW.ret ?_
            change ResA _ _ _ _ _
            refine res1 rfl (ResV.tmp rfl) rfl ?_
            first | rfl | (have hb := @print_bad r; have hy := @readP_yes r; rcases readP_cases s with ⟨c1, c2, c3⟩ | c <;> cases hp : placeB r <;> simp_all; done)
           ·skip
            refine AD.n ?_
            refine AD.r 31 rfl (rd_move rfl rfl) ⟨_, _, rfl, rfl, rfl⟩ ?_
            refine AD.r 32 rfl (rd_move rfl rfl) ⟨_, _, rfl, rfl, rfl⟩ ?_
            refine AD.fk (d := 78) rfl (fun h78 => ?_) (fun h78 => ?_)
            ·skip
             refine AD.n ?_
             refine AD.r 33 rfl (rd_loadN_bx rfl ag_23 rfl rfl (Nat.le_of_ble_eq_true rfl) rfl) ⟨_, _, rfl, rfl, rfl⟩ ?_
             refine AD.r 35 rfl (rd_move rfl rfl) ⟨_, _, rfl, rfl, rfl⟩ ?_
             refine AD.move 34 rfl (by kernel_rfl) ⟨_, _, rfl, rfl, rfl⟩ (op_call (fprint_c ⟨_, _, _⟩) rfl (by kernel_rfl) rfl (none) ?_)
             rintro r rfl
             refine AD.n ?_
             refine AD.r 36 rfl (rd_sne rfl rfl rfl) ⟨_, _, rfl, rfl, rfl⟩ ?_
             refine AD.r 37 rfl (rd_pick_t rfl rfl rfl) ⟨_, _, rfl, rfl, rfl⟩ ?_
             refine AD.r 38 rfl (rd_pick_f rfl rfl rfl) rfl ?_
             refine AD.done (by kernel_rfl) ?_
             change AW _ _ _ _ _
             refine AW.cd rfl (fun h84 => ?_) (fun h84 => ?_)
             ·skip
              refine AW.seq ?_
              refine AW.region ?_
              refine AL.ra ?_
              refine AL.nil ?_
              change AW _ _ _ _ _
              refine AW.ret ?_
              change ResA _ _ _ _ _
              refine res1 rfl (ResV.tmp rfl) rfl ?_
              first | rfl | (have hb := @print_bad r; have hy := @readP_yes r; rcases readP_cases s with ⟨c1, c2, c3⟩ | c <;> cases hp : placeB r <;> simp_all; done)
             ·skip
              refine AW.skip ?_
              change AW _ _ _ _ _
              refine AW.seq ?_
              refine AW.seq ?_
              refine AW.region ?_
              refine AL.r (rd_loadN_bx rfl ag_23 rfl rfl (Nat.le_of_ble_eq_true rfl) rfl) ?_
              refine AL.op rfl (AOpB.op (op_call (rplace_c r) rfl (by kernel_rfl) rfl (none) ?_))
              rintro r rfl
              refine AL.n ?_
              refine AL.r (rd_un rfl rfl (fun _ => rfl)) ?_
              refine AL.nil ?_
              change AW _ _ _ _ _
              refine AW.cd rfl (fun h87 => ?_) (fun h87 => ?_)
              ·skip
               refine AW.seq ?_
               refine AW.region ?_
               refine AL.r (rd_loadN_bx rfl ag_23 rfl rfl (Nat.le_of_ble_eq_true rfl) rfl) ?_
               refine AL.r (rd_build rfl pl_23 ze_23 rfl rfl) ?_
               refine AL.r (rd_eq_Ref rfl rfl rfl) ?_
               refine AL.rm ?_
               refine AL.fk (d := 91) rfl (fun h91 => ?_) (fun h91 => ?_)
               ·skip
                refine AL.n ?_
                refine AL.ro (rd_move rfl rfl) ?_
                refine AL.ro (rd_bin rfl rfl rfl (fun _ => rfl)) ?_
                refine AL.r (rd_pick_t rfl rfl rfl) ?_
                refine AL.ra ?_
                refine AL.nil ?_
                change AW _ _ _ _ _
                refine AW.ret ?_
                change ResA _ _ _ _ _
                refine res1 rfl (ResV.tmp rfl) rfl ?_
                first | rfl | (have hb := @print_bad r; have hy := @readP_yes r; rcases readP_cases s with ⟨c1, c2, c3⟩ | c <;> cases hp : placeB r <;> simp_all; done)
               ·skip
                refine AL.n ?_
                refine AL.rf ?_
                refine AL.rf ?_
                refine AL.r (rd_pick_f rfl rfl rfl) ?_
                refine AL.ra ?_
                refine AL.nil ?_
                change AW _ _ _ _ _
                refine AW.ret ?_
                change ResA _ _ _ _ _
                refine res1 rfl (ResV.tmp rfl) rfl ?_
                first | rfl | (have hb := @print_bad r; have hy := @readP_yes r; rcases readP_cases s with ⟨c1, c2, c3⟩ | c <;> cases hp : placeB r <;> simp_all; done)
              ·skip
               refine AW.skip ?_
               change AW _ _ _ _ _
               refine AW.seq ?_
               refine AW.region ?_
               refine AL.r (rd_loadN_bx rfl ag_23 rfl rfl (Nat.le_of_ble_eq_true rfl) rfl) ?_
               refine AL.r (rd_loadN_bx rfl ag_23 rfl rfl (Nat.le_of_ble_eq_true rfl) rfl) ?_
               refine AL.r (rd_eq_Ref rfl rfl rfl) ?_
               refine AL.rm ?_
               refine AL.fk (d := 98) rfl (fun h98 => ?_) (fun h98 => ?_)
               ·skip
                refine AL.n ?_
                refine AL.ro (rd_move rfl rfl) ?_
                refine AL.ro (rd_bin rfl rfl rfl (fun _ => rfl)) ?_
                refine AL.r (rd_pick_t rfl rfl rfl) ?_
                refine AL.ra ?_
                refine AL.nil ?_
                change AW _ _ _ _ _
                refine AW.ret ?_
                change ResA _ _ _ _ _
                refine res1 rfl (ResV.tmp rfl) rfl ?_
                first | rfl | (have hb := @print_bad r; have hy := @readP_yes r; rcases readP_cases s with ⟨c1, c2, c3⟩ | c <;> cases hp : placeB r <;> simp_all; done)
               ·skip
                refine AL.n ?_
                refine AL.rf ?_
                refine AL.rf ?_
                refine AL.r (rd_pick_f rfl rfl rfl) ?_
                refine AL.ra ?_
                refine AL.nil ?_
                change AW _ _ _ _ _
                refine AW.ret ?_
                change ResA _ _ _ _ _
                refine res1 rfl (ResV.tmp rfl) rfl ?_
                first | rfl | (have hb := @print_bad r; have hy := @readP_yes r; rcases readP_cases s with ⟨c1, c2, c3⟩ | c <;> cases hp : placeB r <;> simp_all; done)
            ·skip
             refine AD.n ?_
             refine AD.s 33 rfl ⟨_, _, rfl, rfl, rfl⟩ ?_
             refine AD.s 34 rfl ⟨_, _, rfl, rfl, rfl⟩ ?_
             refine AD.s 35 rfl ⟨_, _, rfl, rfl, rfl⟩ ?_
             refine AD.s 36 rfl ⟨_, _, rfl, rfl, rfl⟩ ?_
             refine AD.r 37 rfl (rd_pick_f rfl rfl rfl) ⟨_, _, rfl, rfl, rfl⟩ ?_
             refine AD.r 38 rfl (rd_pick_f rfl rfl rfl) rfl ?_
             refine AD.done (by kernel_rfl) ?_
             change AW _ _ _ _ _
             refine AW.cond_f rfl ?_
             refine AW.skip ?_
             change AW _ _ _ _ _
             refine AW.seq ?_
             refine AW.seq ?_
             refine AW.region ?_
             refine AL.r (rd_loadN_bx rfl ag_23 rfl rfl (Nat.le_of_ble_eq_true rfl) rfl) ?_
             refine AL.op rfl (AOpB.op (op_call (rplace_c r) rfl (by kernel_rfl) rfl (none) ?_))
             rintro r rfl
             refine AL.n ?_
             refine AL.r (rd_un rfl rfl (fun _ => rfl)) ?_
             refine AL.nil ?_
             change AW _ _ _ _ _
             refine AW.cd rfl (fun h87 => ?_) (fun h87 => ?_)
             ·skip
              refine AW.seq ?_
              refine AW.region ?_
              refine AL.r (rd_loadN_bx rfl ag_23 rfl rfl (Nat.le_of_ble_eq_true rfl) rfl) ?_
              refine AL.r (rd_build rfl pl_23 ze_23 rfl rfl) ?_
              refine AL.r (rd_eq_Ref rfl rfl rfl) ?_
              refine AL.rm ?_
              refine AL.fk (d := 91) rfl (fun h91 => ?_) (fun h91 => ?_)
              ·skip
               refine AL.n ?_
               refine AL.ro (rd_move rfl rfl) ?_
               refine AL.ro (rd_bin rfl rfl rfl (fun _ => rfl)) ?_
               refine AL.r (rd_pick_t rfl rfl rfl) ?_
               refine AL.ra ?_
               refine AL.nil ?_
               change AW _ _ _ _ _
               refine AW.ret ?_
               change ResA _ _ _ _ _
               refine res1 rfl (ResV.tmp rfl) rfl ?_
               first | rfl | (have hb := @print_bad r; have hy := @readP_yes r; rcases readP_cases s with ⟨c1, c2, c3⟩ | c <;> cases hp : placeB r <;> simp_all; done)
              ·skip
               refine AL.n ?_
               refine AL.rf ?_
               refine AL.rf ?_
               refine AL.r (rd_pick_f rfl rfl rfl) ?_
               refine AL.ra ?_
               refine AL.nil ?_
               change AW _ _ _ _ _
               refine AW.ret ?_
               change ResA _ _ _ _ _
               refine res1 rfl (ResV.tmp rfl) rfl ?_
               first | rfl | (have hb := @print_bad r; have hy := @readP_yes r; rcases readP_cases s with ⟨c1, c2, c3⟩ | c <;> cases hp : placeB r <;> simp_all; done)
             ·skip
              refine AW.skip ?_
              change AW _ _ _ _ _
              refine AW.seq ?_
              refine AW.region ?_
              refine AL.r (rd_loadN_bx rfl ag_23 rfl rfl (Nat.le_of_ble_eq_true rfl) rfl) ?_
              refine AL.r (rd_loadN_bx rfl ag_23 rfl rfl (Nat.le_of_ble_eq_true rfl) rfl) ?_
              refine AL.r (rd_eq_Ref rfl rfl rfl) ?_
              refine AL.rm ?_
              refine AL.fk (d := 98) rfl (fun h98 => ?_) (fun h98 => ?_)
              ·skip
               refine AL.n ?_
               refine AL.ro (rd_move rfl rfl) ?_
               refine AL.ro (rd_bin rfl rfl rfl (fun _ => rfl)) ?_
               refine AL.r (rd_pick_t rfl rfl rfl) ?_
               refine AL.ra ?_
               refine AL.nil ?_
               change AW _ _ _ _ _
               refine AW.ret ?_
               change ResA _ _ _ _ _
               refine res1 rfl (ResV.tmp rfl) rfl ?_
               first | rfl | (have hb := @print_bad r; have hy := @readP_yes r; rcases readP_cases s with ⟨c1, c2, c3⟩ | c <;> cases hp : placeB r <;> simp_all; done)
              ·skip
               refine AL.n ?_
               refine AL.rf ?_
               refine AL.rf ?_
               refine AL.r (rd_pick_f rfl rfl rfl) ?_
               refine AL.ra ?_
               refine AL.nil ?_
               change AW _ _ _ _ _
               refine AW.ret ?_
               change ResA _ _ _ _ _
               refine res1 rfl (ResV.tmp rfl) rfl ?_
               first | rfl | (have hb := @print_bad r; have hy := @readP_yes r; rcases readP_cases s with ⟨c1, c2, c3⟩ | c <;> cases hp : placeB r <;> simp_all; done)
          ·skip
           refine AD.n ?_
           refine AD.s 26 rfl ⟨_, _, rfl, rfl, rfl⟩ ?_
           refine AD.s 27 rfl ⟨_, _, rfl, rfl, rfl⟩ ?_
           refine AD.r 28 rfl (rd_pick_f rfl rfl rfl) ⟨_, _, rfl, rfl, rfl⟩ ?_
           refine AD.r 29 rfl (rd_pick_f rfl rfl rfl) rfl ?_
           refine AD.r 30 rfl (rd_move rfl rfl) rfl ?_
           refine AD.r 31 rfl (rd_move rfl rfl) ⟨_, _, rfl, rfl, rfl⟩ ?_
           refine AD.r 32 rfl (rd_move rfl rfl) ⟨_, _, rfl, rfl, rfl⟩ ?_
           refine AD.fk (d := 78) rfl (fun h78 => ?_) (fun h78 => ?_)
           ·skip
            refine AD.n ?_
            refine AD.r 33 rfl (rd_loadN_bx rfl ag_23 rfl rfl (Nat.le_of_ble_eq_true rfl) rfl) ⟨_, _, rfl, rfl, rfl⟩ ?_
            refine AD.r 35 rfl (rd_move rfl rfl) ⟨_, _, rfl, rfl, rfl⟩ ?_
            refine AD.move 34 rfl (by kernel_rfl) ⟨_, _, rfl, rfl, rfl⟩ (op_call (fprint_c ⟨_, _, _⟩) rfl (by kernel_rfl) rfl (none) ?_)
            rintro r rfl
            refine AD.n ?_
            refine AD.r 36 rfl (rd_sne rfl rfl rfl) ⟨_, _, rfl, rfl, rfl⟩ ?_
            refine AD.r 37 rfl (rd_pick_t rfl rfl rfl) ⟨_, _, rfl, rfl, rfl⟩ ?_
            refine AD.r 38 rfl (rd_pick_f rfl rfl rfl) rfl ?_
            refine AD.done (by kernel_rfl) ?_
            change AW _ _ _ _ _
            refine AW.cd rfl (fun h84 => ?_) (fun h84 => ?_)
            ·skip
             refine AW.seq ?_
             refine AW.region ?_
             refine AL.ra ?_
             refine AL.nil ?_
             change AW _ _ _ _ _
             refine AW.ret ?_
             change ResA _ _ _ _ _
             refine res1 rfl (ResV.tmp rfl) rfl ?_
             first | rfl | (have hb := @print_bad r; have hy := @readP_yes r; rcases readP_cases s with ⟨c1, c2, c3⟩ | c <;> cases hp : placeB r <;> simp_all; done)
            ·skip
             refine AW.skip ?_
             change AW _ _ _ _ _
             refine AW.seq ?_
             refine AW.seq ?_
             refine AW.region ?_
             refine AL.r (rd_loadN_bx rfl ag_23 rfl rfl (Nat.le_of_ble_eq_true rfl) rfl) ?_
             refine AL.op rfl (AOpB.op (op_call (rplace_c r) rfl (by kernel_rfl) rfl (none) ?_))
             rintro r rfl
             refine AL.n ?_
             refine AL.r (rd_un rfl rfl (fun _ => rfl)) ?_
             refine AL.nil ?_
             change AW _ _ _ _ _
             refine AW.cd rfl (fun h87 => ?_) (fun h87 => ?_)
             ·skip
              refine AW.seq ?_
              refine AW.region ?_
              refine AL.r (rd_loadN_bx rfl ag_23 rfl rfl (Nat.le_of_ble_eq_true rfl) rfl) ?_
              refine AL.r (rd_build rfl pl_23 ze_23 rfl rfl) ?_
              refine AL.r (rd_eq_Ref rfl rfl rfl) ?_
              refine AL.rm ?_
              refine AL.fk (d := 91) rfl (fun h91 => ?_) (fun h91 => ?_)
              ·skip
               refine AL.n ?_
               refine AL.ro (rd_move rfl rfl) ?_
               refine AL.ro (rd_bin rfl rfl rfl (fun _ => rfl)) ?_
               refine AL.r (rd_pick_t rfl rfl rfl) ?_
               refine AL.ra ?_
               refine AL.nil ?_
               change AW _ _ _ _ _
               refine AW.ret ?_
               change ResA _ _ _ _ _
               refine res1 rfl (ResV.tmp rfl) rfl ?_
               first | rfl | (have hb := @print_bad r; have hy := @readP_yes r; rcases readP_cases s with ⟨c1, c2, c3⟩ | c <;> cases hp : placeB r <;> simp_all; done)
              ·skip
               refine AL.n ?_
               refine AL.rf ?_
               refine AL.rf ?_
               refine AL.r (rd_pick_f rfl rfl rfl) ?_
               refine AL.ra ?_
               refine AL.nil ?_
               change AW _ _ _ _ _
               refine AW.ret ?_
               change ResA _ _ _ _ _
               refine res1 rfl (ResV.tmp rfl) rfl ?_
               first | rfl | (have hb := @print_bad r; have hy := @readP_yes r; rcases readP_cases s with ⟨c1, c2, c3⟩ | c <;> cases hp : placeB r <;> simp_all; done)
             ·skip
              refine AW.skip ?_
              change AW _ _ _ _ _
              refine AW.seq ?_
              refine AW.region ?_
              refine AL.r (rd_loadN_bx rfl ag_23 rfl rfl (Nat.le_of_ble_eq_true rfl) rfl) ?_
              refine AL.r (rd_loadN_bx rfl ag_23 rfl rfl (Nat.le_of_ble_eq_true rfl) rfl) ?_
              refine AL.r (rd_eq_Ref rfl rfl rfl) ?_
              refine AL.rm ?_
              refine AL.fk (d := 98) rfl (fun h98 => ?_) (fun h98 => ?_)
              ·skip
               refine AL.n ?_
               refine AL.ro (rd_move rfl rfl) ?_
               refine AL.ro (rd_bin rfl rfl rfl (fun _ => rfl)) ?_
               refine AL.r (rd_pick_t rfl rfl rfl) ?_
               refine AL.ra ?_
               refine AL.nil ?_
               change AW _ _ _ _ _
               refine AW.ret ?_
               change ResA _ _ _ _ _
               refine res1 rfl (ResV.tmp rfl) rfl ?_
               first | rfl | (have hb := @print_bad r; have hy := @readP_yes r; rcases readP_cases s with ⟨c1, c2, c3⟩ | c <;> cases hp : placeB r <;> simp_all; done)
              ·skip
               refine AL.n ?_
               refine AL.rf ?_
               refine AL.rf ?_
               refine AL.r (rd_pick_f rfl rfl rfl) ?_
               refine AL.ra ?_
               refine AL.nil ?_
               change AW _ _ _ _ _
               refine AW.ret ?_
               change ResA _ _ _ _ _
               refine res1 rfl (ResV.tmp rfl) rfl ?_
               first | rfl | (have hb := @print_bad r; have hy := @readP_yes r; rcases readP_cases s with ⟨c1, c2, c3⟩ | c <;> cases hp : placeB r <;> simp_all; done)
           ·skip
            refine AD.n ?_
            refine AD.s 33 rfl ⟨_, _, rfl, rfl, rfl⟩ ?_
            refine AD.s 34 rfl ⟨_, _, rfl, rfl, rfl⟩ ?_
            refine AD.s 35 rfl ⟨_, _, rfl, rfl, rfl⟩ ?_
            refine AD.s 36 rfl ⟨_, _, rfl, rfl, rfl⟩ ?_
            refine AD.r 37 rfl (rd_pick_f rfl rfl rfl) ⟨_, _, rfl, rfl, rfl⟩ ?_
            refine AD.r 38 rfl (rd_pick_f rfl rfl rfl) rfl ?_
            refine AD.done (by kernel_rfl) ?_
            change AW _ _ _ _ _
            refine AW.cond_f rfl ?_
            refine AW.skip ?_
            change AW _ _ _ _ _
            refine AW.seq ?_
            refine AW.seq ?_
            refine AW.region ?_
            refine AL.r (rd_loadN_bx rfl ag_23 rfl rfl (Nat.le_of_ble_eq_true rfl) rfl) ?_
            refine AL.op rfl (AOpB.op (op_call (rplace_c r) rfl (by kernel_rfl) rfl (none) ?_))
            rintro r rfl
            refine AL.n ?_
            refine AL.r (rd_un rfl rfl (fun _ => rfl)) ?_
            refine AL.nil ?_
            change AW _ _ _ _ _
            refine AW.cd rfl (fun h87 => ?_) (fun h87 => ?_)
            ·skip
             refine AW.seq ?_
             refine AW.region ?_
             refine AL.r (rd_loadN_bx rfl ag_23 rfl rfl (Nat.le_of_ble_eq_true rfl) rfl) ?_
             refine AL.r (rd_build rfl pl_23 ze_23 rfl rfl) ?_
             refine AL.r (rd_eq_Ref rfl rfl rfl) ?_
             refine AL.rm ?_
             refine AL.fk (d := 91) rfl (fun h91 => ?_) (fun h91 => ?_)
             ·skip
              refine AL.n ?_
              refine AL.ro (rd_move rfl rfl) ?_
              refine AL.ro (rd_bin rfl rfl rfl (fun _ => rfl)) ?_
              refine AL.r (rd_pick_t rfl rfl rfl) ?_
              refine AL.ra ?_
              refine AL.nil ?_
              change AW _ _ _ _ _
              refine AW.ret ?_
              change ResA _ _ _ _ _
              refine res1 rfl (ResV.tmp rfl) rfl ?_
              first | rfl | (have hb := @print_bad r; have hy := @readP_yes r; rcases readP_cases s with ⟨c1, c2, c3⟩ | c <;> cases hp : placeB r <;> simp_all; done)
             ·skip
              refine AL.n ?_
              refine AL.rf ?_
              refine AL.rf ?_
              refine AL.r (rd_pick_f rfl rfl rfl) ?_
              refine AL.ra ?_
              refine AL.nil ?_
              change AW _ _ _ _ _
              refine AW.ret ?_
              change ResA _ _ _ _ _
              refine res1 rfl (ResV.tmp rfl) rfl ?_
              first | rfl | (have hb := @print_bad r; have hy := @readP_yes r; rcases readP_cases s with ⟨c1, c2, c3⟩ | c <;> cases hp : placeB r <;> simp_all; done)
            ·skip
             refine AW.skip ?_
             change AW _ _ _ _ _
             refine AW.seq ?_
             refine AW.region ?_
             refine AL.r (rd_loadN_bx rfl ag_23 rfl rfl (Nat.le_of_ble_eq_true rfl) rfl) ?_
             refine AL.r (rd_loadN_bx rfl ag_23 rfl rfl (Nat.le_of_ble_eq_true rfl) rfl) ?_
             refine AL.r (rd_eq_Ref rfl rfl rfl) ?_
             refine AL.rm ?_
             refine AL.fk (d := 98) rfl (fun h98 => ?_) (fun h98 => ?_)
             ·skip
              refine AL.n ?_
              refine AL.ro (rd_move rfl rfl) ?_
              refine AL.ro (rd_bin rfl rfl rfl (fun _ => rfl)) ?_
              refine AL.r (rd_pick_t rfl rfl rfl) ?_
              refine AL.ra ?_
              refine AL.nil ?_
              change AW _ _ _ _ _
              refine AW.ret ?_
              change ResA _ _ _ _ _
              refine res1 rfl (ResV.tmp rfl) rfl ?_
              first | rfl | (have hb := @print_bad r; have hy := @readP_yes r; rcases readP_cases s with ⟨c1, c2, c3⟩ | c <;> cases hp : placeB r <;> simp_all; done)
             ·skip
              refine AL.n ?_
              refine AL.rf ?_
              refine AL.rf ?_
              refine AL.r (rd_pick_f rfl rfl rfl) ?_
              refine AL.ra ?_
              refine AL.nil ?_
              change AW _ _ _ _ _
              refine AW.ret ?_
              change ResA _ _ _ _ _
              refine res1 rfl (ResV.tmp rfl) rfl ?_
              first | rfl | (have hb := @print_bad r; have hy := @readP_yes r; rcases readP_cases s with ⟨c1, c2, c3⟩ | c <;> cases hp : placeB r <;> simp_all; done)
theorem walk_FieldPrints (w : World) (v0 : Value) (rf0 : RefD) (rp0 : RepS AnyB w v0 rf0.av) (s1 : ByteArray) (hs1 : s1.size ≤ maxLen) :
    Calls Tryd.prog 3 #[v0, .string s1] w fun e w' => e = .returned (.bool true) ∧ Below w.heap.size w w' :=
  have e : Value.string s1 = sv s1.data.toList := by simp [sv]
  (fprints_c rf0 s1.data.toList).law (vs := [v0, .string s1]) rfl (rep_cons rp0 (rep_cons (by rw [e]; exact .sc _) rep_nil))
end Go.Proofs.YtpkjlmaphhileaaDoor
