/- The twelfth law's 'begins', walked over abstract states. -/
import Derived.Test.YtgjpeldgjpgbcaaVltS
namespace Go.Proofs.Ytgjpeldgjpgbcaa
set_option linter.unusedSimpArgs false
set_option linter.unusedVariables false
set_option maxRecDepth 100000
open Go.RowKit

theorem vbegins_c (l : List (List UInt8)) (m s : Nat) (hm : m ≤ l.length) (hs : s ≤ m) (h3 : l.length ≤ 1000000) (h5 : ∀ r ∈ l, r.length ≤ 1000000) : AC Try.prog 67 [.sl (rowsA (l.take m)), .sl (rowsA l), .sc (.int .i64 (s : Int))] (fun r => r = .s (.sc (.bool true))) := by
  have h6 : ∀ r ∈ l.take m, r.length ≤ 1000000 := fun r hr => h5 r (List.mem_of_mem_take hr)
  have q1 := rowsA_len (l.take m)
  have q2 := rowsA_len l
  have q3 : (l.take m).length = m := (by rw [List.length_take]; omega)
  refine AC.of' 33 0 Try.func67 rfl ?_
  change AW _ _ _ _ []
  refine AW.seq ?_
  refine AW.region ?_
  refine AL.ra ?_
  refine AL.nil ?_
  change AW _ _ _ _ _
  refine AW.seq ?_
  refine AW.seq ?_
  refine AW.region ?_
  refine AL.rm ?_
  refine AL.r (rd_len_sl rfl el_56 rfl) ?_
  refine AL.rm ?_
  refine AL.r (rd_bin rfl rfl rfl (fun _ => rfl)) ?_
  refine AL.rm ?_
  refine AL.fk (d := 12) rfl (fun h12 => ?_) (fun h12 => ?_)
  ·skip
   refine AL.n ?_
   refine AL.rf ?_
   refine AL.rf ?_
   refine AL.rf ?_
   refine AL.rf ?_
   refine AL.rf ?_
   refine AL.r (rd_pick_t rfl rfl rfl) ?_
   refine AL.nil ?_
   change AW _ _ _ _ _
   refine AW.cond_t rfl ?_
   refine AW.seq ?_
   omega
  ·skip
   refine AL.n ?_
   refine AL.ro (rd_move rfl rfl) ?_
   refine AL.ro (rd_len_sl rfl el_56 rfl) ?_
   refine AL.ro (rd_move rfl rfl) ?_
   refine AL.ro (rd_len_sl rfl el_56 rfl) ?_
   refine AL.ro (rd_bin rfl rfl rfl (fun _ => rfl)) ?_
   refine AL.r (rd_pick_f rfl rfl rfl) ?_
   refine AL.nil ?_
   change AW _ _ _ _ _
   refine AW.cd rfl (fun h18 => ?_) (fun h18 => ?_)
   ·skip
    refine AW.seq ?_
    omega
   ·skip
    refine AW.skip ?_
    change AW _ _ _ _ _
    refine AW.seq ?_
    refine AW.seq ?_
    refine AW.region ?_
    refine AL.ra ?_
    refine AL.nil ?_
    change AW _ _ _ _ _
    refine AW.block ?_
    refine AW.loopM (ι := Nat) [6, 19, 20, 21, 22, 23, 24, 25, 26, 27, 28, 29, 30, 31, 32, 33, 34, 35] (fun j => [(7, .sc (.int .i64 (j : Int)))]) [] (fun j => []) (fun j => j ≤ m) (fun j => m - j) 0 (Nat.zero_le _) (by simp only [anys, upds, offs, List.set_cons_zero, List.set_cons_succ]; repeat (first | exact Wk.nil | refine Wk.same ?_ | refine Wk.any ?_)) (by simp only [anys, upds, offs, List.set_cons_zero, List.set_cons_succ]; repeat (first | exact Sk.nil _ | refine Sk.same _ ?_ | refine Sk.scr _ (by decide) ?_)) ?_
    rintro j gs hJ
    refine AW.norm (by simp only [anys, upds, offs, List.set_cons_zero, List.set_cons_succ]; rfl) (by (try simp only [anys, upds, offs, List.set_cons_zero, List.set_cons_succ]); (try rfl)) ?_
    refine AW.seq ?_
    refine AW.seq ?_
    refine AW.region ?_
    refine AL.rm ?_
    refine AL.rm ?_
    refine AL.r (rd_len_sl rfl el_56 rfl) ?_
    refine AL.r (rd_bin rfl rfl rfl (fun _ => rfl)) ?_
    refine AL.nil ?_
    change AW _ _ _ _ _
    refine AW.cd rfl (fun h22 => ?_) (fun h22 => ?_)
    ·skip
     refine AW.skip ?_
     change AW _ _ _ _ _
     refine AW.seq ?_
     refine AW.block ?_
     refine AW.seq ?_
     refine AW.draw (by kernel_rfl) ?_
     refine AD.r 0 rfl (rd_move rfl rfl) rfl ?_
     refine AD.r 1 rfl (rd_move rfl rfl) rfl ?_
     refine AD.r 2 rfl (rd_iaddr_sl rfl el_56 rfl rfl rfl (get_mapA (by omega)) rfl) rfl ?_
     refine AD.r 3 rfl (rd_load_ep rfl ag_29 rfl rfl) rfl ?_
     refine AD.r 4 rfl (rd_b2s rfl (by kernel_rfl) (src_s rfl)) rfl ?_
     refine AD.r 5 rfl (rd_move rfl rfl) rfl ?_
     refine AD.r 6 rfl (rd_move rfl rfl) rfl ?_
     refine AD.r 7 rfl (rd_iaddr_sl rfl el_56 rfl rfl rfl (get_mapA (by omega)) rfl) rfl ?_
     refine AD.r 8 rfl (rd_load_ep rfl ag_29 rfl rfl) rfl ?_
     refine AD.r 9 rfl (rd_b2s rfl (by kernel_rfl) (src_s rfl)) rfl ?_
     refine AD.r 10 rfl (rd_sne rfl rfl rfl) rfl ?_
     refine AD.done (by kernel_rfl) ?_
     change AW _ _ _ _ _
     refine AW.cd rfl (fun h35 => ?_) (fun h35 => ?_)
     ·skip
      refine AW.seq ?_
      exact absurd List.getElem_take ‹¬ _›
     ·skip
      refine AW.skip ?_
      change AW _ _ _ _ _
      refine AW.region ?_
      refine AL.rm ?_
      refine AL.r (rd_arith_add rfl rfl rfl (by first | exact IntWalk.i64_in _ (by omega) | rfl)) ?_
      refine AL.ra ?_
      refine AL.nil ?_
      refine ⟨j + 1, ?_, by first | omega | (simp only []; omega), ?_, ?_⟩
      ·show j + 1 ≤ m; omega
      ·simp only [anys, upds, offs, List.set_cons_zero, List.set_cons_succ]; repeat (first | exact Wk.nil | refine Wk.same ?_ | refine Wk.any ?_)
      ·simp only [anys, upds, offs, List.set_cons_zero, List.set_cons_succ]; repeat (first | exact Sk.nil _ | refine Sk.same _ ?_ | refine Sk.scr _ (by decide) ?_)
    ·skip
     refine AW.exit ?_
     change AW _ _ _ _ _
     refine AW.seq ?_
     refine AW.region ?_
     refine AL.ra ?_
     refine AL.nil ?_
     change AW _ _ _ _ _
     refine AW.ret ?_
     change ResA _ _ _ _ _
     refine res1 rfl (ResV.tmp rfl) rfl ?_
     rfl
end Go.Proofs.Ytgjpeldgjpgbcaa
