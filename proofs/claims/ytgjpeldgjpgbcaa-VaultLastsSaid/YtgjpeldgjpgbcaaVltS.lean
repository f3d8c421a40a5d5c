/- The vault's reference: sameness of states, walked over abstract states. -/
import Derived.Test.YtgjpeldgjpgbcaaSltD
import Derived.Test.YtgjpeldgjpgbcaaOpR
namespace Go.Proofs.Ytgjpeldgjpgbcaa
set_option linter.unusedSimpArgs false
set_option linter.unusedVariables false
set_option maxRecDepth 100000
open Go.RowKit

theorem smF {P : Prop} [Decidable P] (h : ¬ P) : RS.s (AV.sc (.bool false)) = RS.s (AV.sc (.bool (decide P))) := by simp [h]
theorem vsame_c (e1 e2 f1 f2 : Int) (b1 b2 : List UInt8) (r1 r2 : List (List UInt8)) (h1 : b1.length ≤ 1000000) (h2 : b2.length ≤ 1000000) (h3 : r1.length ≤ 1000000) (h4 : r2.length ≤ 1000000) (h5 : ∀ r ∈ r1, r.length ≤ 1000000) (h6 : ∀ r ∈ r2, r.length ≤ 1000000) : AC Try.prog 59 [.ag [.sc (.int .i64 e1), .sl (byA b1), .sl (rowsA r1), .sc (.int .i64 f1)], .ag [.sc (.int .i64 e2), .sl (byA b2), .sl (rowsA r2), .sc (.int .i64 f2)]] (fun r => r = .s (.sc (.bool (decide (e1 = e2 ∧ b1 = b2 ∧ r1 = r2))))) := by
  have q1 := rowsA_len r1
  have q2 := rowsA_len r2
  refine AC.of' 47 2 Try.func59 rfl ?_
  change AW _ _ _ _ [TK.mk 0 .off, TK.mk 0 .off]
  refine AW.seq ?_
  refine AW.region ?_
  refine AL.op rfl (AOpB.op (op_box 0 rfl rfl rfl rfl rfl ?_))
  refine AL.n ?_
  refine AL.op rfl (AOpB.op (op_box 1 rfl rfl rfl rfl rfl ?_))
  refine AL.n ?_
  refine AL.ra ?_
  refine AL.nil ?_
  change AW _ _ _ _ _
  refine AW.seq ?_
  refine AW.seq ?_
  refine AW.region ?_
  refine AL.r (rd_faddr_bx rfl fo_87_0 rfl rfl ⟨_, _, rfl⟩) ?_
  refine AL.r (rd_load_bx rfl ag_2 rfl rfl rfl) ?_
  refine AL.r (rd_faddr_bx rfl fo_87_0 rfl rfl ⟨_, _, rfl⟩) ?_
  refine AL.r (rd_load_bx rfl ag_2 rfl rfl rfl) ?_
  refine AL.r (rd_bin rfl rfl rfl (fun _ => rfl)) ?_
  refine AL.rm ?_
  refine AL.fk (d := 11) rfl (fun h11 => ?_) (fun h11 => ?_)
  ·skip
   refine AL.n ?_
   refine AL.rf ?_
   refine AL.rf ?_
   refine AL.rf ?_
   refine AL.rf ?_
   refine AL.rf ?_
   refine AL.rf ?_
   refine AL.rf ?_
   refine AL.r (rd_pick_t rfl rfl rfl) ?_
   refine AL.rm ?_
   refine AL.rf ?_
   refine AL.rf ?_
   refine AL.rf ?_
   refine AL.rf ?_
   refine AL.rf ?_
   refine AL.rf ?_
   refine AL.rf ?_
   refine AL.r (rd_pick_t rfl rfl rfl) ?_
   refine AL.nil ?_
   change AW _ _ _ _ _
   refine AW.cond_t rfl ?_
   refine AW.seq ?_
   refine AW.region ?_
   refine AL.ra ?_
   refine AL.nil ?_
   change AW _ _ _ _ _
   refine AW.ret ?_
   change ResA _ _ _ _ _
   refine res1 rfl (ResV.tmp rfl) rfl ?_
   first | exact smF (fun h => h11 h.1) | exact smF (fun h => h20 h.2.1) | exact smF (fun h => h28 (by rw [h.2.2]))
  ·skip
   refine AL.n ?_
   refine AL.ro (rd_faddr_bx rfl fo_87_1 rfl rfl ⟨_, _, rfl⟩) ?_
   refine AL.ro (rd_load_bx rfl ag_29 rfl rfl rfl) ?_
   refine AL.ro (rd_b2s rfl (by kernel_rfl) (src_s rfl)) ?_
   refine AL.ro (rd_faddr_bx rfl fo_87_1 rfl rfl ⟨_, _, rfl⟩) ?_
   refine AL.ro (rd_load_bx rfl ag_29 rfl rfl rfl) ?_
   refine AL.ro (rd_b2s rfl (by kernel_rfl) (src_s rfl)) ?_
   refine AL.ro (rd_sne rfl rfl rfl) ?_
   refine AL.r (rd_pick_f rfl rfl rfl) ?_
   refine AL.rm ?_
   refine AL.fk (d := 20) rfl (fun h20 => ?_) (fun h20 => ?_)
   ·skip
    refine AL.n ?_
    refine AL.rf ?_
    refine AL.rf ?_
    refine AL.rf ?_
    refine AL.rf ?_
    refine AL.rf ?_
    refine AL.rf ?_
    refine AL.rf ?_
    refine AL.r (rd_pick_t rfl rfl rfl) ?_
    refine AL.nil ?_
    change AW _ _ _ _ _
    refine AW.cond_t rfl ?_
    refine AW.seq ?_
    refine AW.region ?_
    refine AL.ra ?_
    refine AL.nil ?_
    change AW _ _ _ _ _
    refine AW.ret ?_
    change ResA _ _ _ _ _
    refine res1 rfl (ResV.tmp rfl) rfl ?_
    first | exact smF (fun h => h11 h.1) | exact smF (fun h => h20 h.2.1) | exact smF (fun h => h28 (by rw [h.2.2]))
   ·skip
    refine AL.n ?_
    refine AL.ro (rd_faddr_bx rfl fo_87_2 rfl rfl ⟨_, _, rfl⟩) ?_
    refine AL.ro (rd_load_bx rfl ag_56 rfl rfl rfl) ?_
    refine AL.ro (rd_len_sl rfl el_56 rfl) ?_
    refine AL.ro (rd_faddr_bx rfl fo_87_2 rfl rfl ⟨_, _, rfl⟩) ?_
    refine AL.ro (rd_load_bx rfl ag_56 rfl rfl rfl) ?_
    refine AL.ro (rd_len_sl rfl el_56 rfl) ?_
    refine AL.ro (rd_bin rfl rfl rfl (fun _ => rfl)) ?_
    refine AL.r (rd_pick_f rfl rfl rfl) ?_
    refine AL.nil ?_
    change AW _ _ _ _ _
    refine AW.cd rfl (fun h28 => ?_) (fun h28 => ?_)
    ·skip
     refine AW.seq ?_
     refine AW.region ?_
     refine AL.ra ?_
     refine AL.nil ?_
     change AW _ _ _ _ _
     refine AW.ret ?_
     change ResA _ _ _ _ _
     refine res1 rfl (ResV.tmp rfl) rfl ?_
     first | exact smF (fun h => h11 h.1) | exact smF (fun h => h20 h.2.1) | exact smF (fun h => h28 (by rw [h.2.2]))
    ·skip
     refine AW.skip ?_
     change AW _ _ _ _ _
     refine AW.seq ?_
     refine AW.seq ?_
     refine AW.region ?_
     refine AL.ra ?_
     refine AL.nil ?_
     change AW _ _ _ _ _
     refine AW.block ?_
     refine AW.loopM (ι := Nat) [4, 29, 30, 31, 32, 33, 34, 35, 36, 37, 38, 39, 40, 41, 42, 43, 44, 45, 46, 47, 48] (fun j => [(5, .sc (.int .i64 (j : Int)))]) [] (fun j => []) (fun j => j ≤ r1.length ∧ r1.take j = r2.take j) (fun j => r1.length - j) 0 (⟨Nat.zero_le _, rfl⟩) (by simp only [anys, upds, offs, List.set_cons_zero, List.set_cons_succ]; repeat (first | exact Wk.nil | refine Wk.same ?_ | refine Wk.any ?_)) (by simp only [anys, upds, offs, List.set_cons_zero, List.set_cons_succ]; repeat (first | exact Sk.nil _ | refine Sk.same _ ?_ | refine Sk.scr _ (by decide) ?_)) ?_
     rintro j gs hJ
     refine AW.norm (by simp only [anys, upds, offs, List.set_cons_zero, List.set_cons_succ]; rfl) (by (try simp only [anys, upds, offs, List.set_cons_zero, List.set_cons_succ]); (try rfl)) ?_
     refine AW.seq ?_
     refine AW.seq ?_
     refine AW.region ?_
     refine AL.rm ?_
     refine AL.r (rd_faddr_bx rfl fo_87_2 rfl rfl ⟨_, _, rfl⟩) ?_
     refine AL.r (rd_load_bx rfl ag_56 rfl rfl rfl) ?_
     refine AL.r (rd_len_sl rfl el_56 rfl) ?_
     refine AL.r (rd_bin rfl rfl rfl (fun _ => rfl)) ?_
     refine AL.nil ?_
     change AW _ _ _ _ _
     refine AW.cd rfl (fun h33 => ?_) (fun h33 => ?_)
     ·skip
      refine AW.skip ?_
      change AW _ _ _ _ _
      refine AW.seq ?_
      refine AW.block ?_
      refine AW.seq ?_
      refine AW.draw (by kernel_rfl) ?_
      refine AD.r 0 rfl (rd_faddr_bx rfl fo_87_2 rfl rfl ⟨_, _, rfl⟩) rfl ?_
      refine AD.r 1 rfl (rd_load_bx rfl ag_56 rfl rfl rfl) rfl ?_
      refine AD.r 2 rfl (rd_move rfl rfl) rfl ?_
      refine AD.r 3 rfl (rd_iaddr_sl rfl el_56 rfl rfl rfl (get_mapA (by omega)) rfl) rfl ?_
      refine AD.r 4 rfl (rd_load_ep rfl ag_29 rfl rfl) rfl ?_
      refine AD.r 5 rfl (rd_b2s rfl (by kernel_rfl) (src_s rfl)) rfl ?_
      refine AD.r 6 rfl (rd_faddr_bx rfl fo_87_2 rfl rfl ⟨_, _, rfl⟩) rfl ?_
      refine AD.r 7 rfl (rd_load_bx rfl ag_56 rfl rfl rfl) rfl ?_
      refine AD.r 8 rfl (rd_move rfl rfl) rfl ?_
      refine AD.r 9 rfl (rd_iaddr_sl rfl el_56 rfl rfl rfl (get_mapA (by omega)) rfl) rfl ?_
      refine AD.r 10 rfl (rd_load_ep rfl ag_29 rfl rfl) rfl ?_
      refine AD.r 11 rfl (rd_b2s rfl (by kernel_rfl) (src_s rfl)) rfl ?_
      refine AD.r 12 rfl (rd_sne rfl rfl rfl) rfl ?_
      refine AD.done (by kernel_rfl) ?_
      change AW _ _ _ _ _
      refine AW.cd rfl (fun h48 => ?_) (fun h48 => ?_)
      ·skip
       refine AW.seq ?_
       refine AW.region ?_
       refine AL.ra ?_
       refine AL.nil ?_
       change AW _ _ _ _ _
       refine AW.ret ?_
       change ResA _ _ _ _ _
       refine res1 rfl (ResV.tmp rfl) rfl ?_
       exact smF (fun h => h48 (by obtain ⟨_, _, rfl⟩ := h; rfl))
      ·skip
       refine AW.skip ?_
       change AW _ _ _ _ _
       refine AW.region ?_
       refine AL.rm ?_
       refine AL.r (rd_arith_add rfl rfl rfl (by first | exact IntWalk.i64_in _ (by omega) | rfl)) ?_
       refine AL.ra ?_
       refine AL.nil ?_
       refine ⟨j + 1, ?_, by first | omega | (simp only []; omega), ?_, ?_⟩
       ·refine ⟨by omega, ?_⟩; rw [← List.take_append_getElem (show j < r1.length by omega), ← List.take_append_getElem (show j < r2.length by omega), hJ.2, h48]
       ·simp only [anys, upds, offs, List.set_cons_zero, List.set_cons_succ]; repeat (first | exact Wk.nil | refine Wk.same ?_ | refine Wk.any ?_)
       ·simp only [anys, upds, offs, List.set_cons_zero, List.set_cons_succ]; repeat (first | exact Sk.nil _ | refine Sk.same _ ?_ | refine Sk.scr _ (by decide) ?_)
     ·skip
      refine AW.exit ?_
      change AW _ _ _ _ _
      refine AW.seq ?_
      refine AW.region ?_
      refine AL.ra ?_
      refine AL.nil ?_
      change AW _ _ _ _ _
      refine AW.ret ?_
      change ResA _ _ _ _ _
      refine res1 rfl (ResV.tmp rfl) rfl ?_
      have e : r1 = r2 := (by have := hJ.2; rwa [List.take_of_length_le (by omega), List.take_of_length_le (by omega)] at this)
      simp [h11, h20, e]
end Go.Proofs.Ytgjpeldgjpgbcaa
