/- The law SchemaTurns, walked over abstract states. No conditions. -/
import Derived.Test.YtdgcbhihmnhnaaaSchE
import Derived.Test.YtdgcbhihmnhnaaaSchF
namespace Go.Proofs.Ytdgcbhihmnhnaaa
set_option linter.unusedSimpArgs false
set_option linter.unusedVariables false
set_option maxRecDepth 100000
open Go.RowKit

theorem without_c (l : List FldD) (r : RefD) (hl : smallS l) : AC Try.prog 43 [.sl (l.map FldD.cs), r.av] (fun x => x = .s (.tu [.sl ((lessW l r).1.map FldD.cs), AI (lessW l r).2])) := by
  have hl1 := hl.1
  refine AC.of' 37 5 Try.func43 rfl ?_; change AW _ _ _ _ [TK.mk 0 .off, TK.mk 0 .off, TK.mk 0 .off, TK.mk 0 .off, TK.mk 0 .off]; refine AW.seq ?_; refine AW.region ?_; refine AL.op rfl (AOpB.op (op_box 0 rfl rfl rfl rfl rfl ?_)); refine AL.n ?_; refine AL.ra ?_; refine AL.ra ?_; refine AL.nil ?_; change AW _ _ _ _ _; refine AW.seq ?_; refine AW.seq ?_; refine AW.region ?_; refine AL.rm ?_; refine AL.op rfl (AOpB.op (op_call (sright_c l) rfl (by kernel_rfl) rfl (none) ?_)); rintro r rfl; refine AL.n ?_; refine AL.r (rd_un rfl rfl (fun _ => rfl)) ?_; refine AL.nil ?_; change AW _ _ _ _ _; refine AW.cd rfl (fun h12 => ?_) (fun h12 => ?_)
  ·refine AW.seq ?_; refine AW.region ?_; refine AL.ra ?_; refine AL.ra ?_; refine AL.nil ?_; change AW _ _ _ _ _; refine AW.ret ?_; change ResA _ _ _ _ _; refine res2 rfl (ResV.tmp rfl) rfl (ResV.tmp rfl) rfl ?_
   (have e : lessW l r = ([], 5) := by (unfold lessW; rw [if_pos (by simp_all)])); rw [e]; rfl
  ·refine AW.skip ?_; change AW _ _ _ _ _; refine AW.seq ?_; refine AW.region ?_; refine AL.rm ?_; refine AL.r (rd_loadN_bx rfl ag_44 rfl rfl (Nat.le_of_ble_eq_true rfl) rfl) ?_; refine AL.op rfl (AOpB.op (op_call (sindex_c l r (by omega)) rfl (by kernel_rfl) rfl (none) ?_)); rintro r rfl; refine AL.n ?_; refine AL.ra ?_; refine AL.nil ?_; change AW _ _ _ _ _; refine AW.seq ?_; refine AW.seq ?_; refine AW.region ?_; refine AL.rm ?_; refine AL.r (rd_bin rfl rfl rfl (fun _ => rfl)) ?_; refine AL.nil ?_; change AW _ _ _ _ _; refine AW.cd rfl (fun h17 => ?_) (fun h17 => ?_)
   ·refine AW.seq ?_; refine AW.region ?_; refine AL.ra ?_; refine AL.ra ?_; refine AL.nil ?_; change AW _ _ _ _ _; refine AW.ret ?_; change ResA _ _ _ _ _; refine res2 rfl (ResV.tmp rfl) rfl (ResV.tmp rfl) rfl ?_
    (have e : lessW l r = ([], 6) := by (unfold lessW; rw [if_neg (by simp_all), if_pos (by omega)])); rw [e]; rfl
   ·refine AW.skip ?_; change AW _ _ _ _ _; refine AW.seq ?_; refine AW.region ?_
    (have hs : srt l := ((rightS_iff l).1 (by simpa using h12)).2.2); (have hne : l ≠ [] := fun e => by (subst e; exact h17 (show (-1 : Int) < 0 by decide))); (have hpos := List.length_pos_iff.2 hne)
    refine AL.rm ?_; refine AL.r (rd_len_sl rfl el_42 rfl) ?_; refine AL.r (rd_arith_sub rfl rfl rfl (by first | exact IntWalk.i64_in _ (by omega) | rfl)) ?_; refine AL.op rfl (AOpB.op (op_make0 1 rfl ap_42 rfl rfl (n := l.length - 1) (by omega) (by omega) (by omega) rfl ?_)); refine AL.n ?_; refine AL.ra ?_; refine AL.nil ?_; change AW _ _ _ _ _; refine AW.seq ?_; refine AW.seq ?_; refine AW.region ?_; refine AL.rm ?_; refine AL.r (rd_len_sl rfl el_42 rfl) ?_; refine AL.rm ?_; refine AL.nil ?_; change AW _ _ _ _ _; refine AW.block ?_; refine AW.loopM (ι := Nat × Nat) [8, 9, 25, 26, 27, 28, 29, 30, 31, 32, 33, 34, 35, 36, 37] (fun ⟨k, g⟩ => [(24, AI (k : Int)), (7, .ow 1 g)]) [2, 3, 4] (fun ⟨k, g⟩ => [(1, ⟨g, .own 47 7 (((l.take k).filter fun f => !decide (f.at_ = r)).map FldD.cs)⟩)]) (fun ⟨k, g⟩ => k ≤ l.length) (fun ⟨k, g⟩ => l.length - k) ⟨0, 1⟩ (Nat.zero_le _) (by simp only [anys, upds, offs, List.set_cons_zero, List.set_cons_succ]; repeat (first | exact Wk.nil | refine Wk.same ?_ | refine Wk.any ?_)) (by simp only [anys, upds, offs, List.set_cons_zero, List.set_cons_succ]; repeat (first | exact Sk.nil _ | refine Sk.same _ ?_ | refine Sk.scr _ (by decide) ?_)) ?_
    rintro ⟨k, g⟩ gs hJ; refine AW.norm (by simp only [anys, upds, offs, List.set_cons_zero, List.set_cons_succ]; rfl) (by (try simp only [anys, upds, offs, List.set_cons_zero, List.set_cons_succ]); (try rfl)) ?_; refine AW.seq ?_; refine AW.region ?_; refine AL.r (rd_bin rfl rfl rfl (fun _ => rfl)) ?_; refine AL.nil ?_; change AW _ _ _ _ _; refine AW.seq ?_; refine AW.cd rfl (fun h25 => ?_) (fun h25 => ?_)
    ·refine AW.skip ?_; change AW _ _ _ _ _; refine AW.seq ?_; refine AW.block ?_; refine AW.seq ?_; refine AW.region ?_; refine AL.rm ?_; refine AL.r (rd_iaddr_sl rfl el_42 rfl rfl rfl (get_mapA (by omega)) rfl) ?_; refine AL.r (rd_loadN_ep rfl ag_47 rfl (Nat.le_of_ble_eq_true rfl) rfl) ?_; refine AL.op rfl (AOpB.op (op_alloc 2 rfl ze_47 rfl ?_)); refine AL.n ?_; refine AL.ra ?_; refine AL.op rfl (op_store_ rfl rfl rfl rfl rfl sz_47 ?_); refine AL.n ?_; refine AL.nil ?_; change AW _ _ _ _ _; refine AW.seq ?_; refine AW.region ?_; refine AL.rm ?_; refine AL.rm ?_; refine AL.r (rd_bin rfl rfl rfl (fun _ => rfl)) ?_; refine AL.nil ?_; change AW _ _ _ _ _; refine AW.cd rfl (fun h31 => ?_) (fun h31 => ?_)
     ·refine AW.region ?_; refine AL.rm ?_; refine AL.r (rd_loadN_bx rfl ag_47 rfl rfl (Nat.le_of_ble_eq_true rfl) rfl) ?_; refine AL.op rfl (AOpB.op (op_call (own_c (l[k]'(by omega)) (hl.at_ (by omega))) rfl (by kernel_rfl) rfl (none) ?_)); rintro r rfl; refine AL.n ?_; refine AL.op rfl (AOpB.op (bs_set rfl ap_42 ze_47 rfl rfl ?_)); refine AL.n ?_; refine AL.op rfl (op_append rfl ap_42 rfl rfl (src_s rfl) (by (have := List.length_filter_le (fun f : FldD => !decide (f.at_ = r)) (l.take k)); (have h2 := List.length_take_le k l); simp only [List.length_map, List.length_cons, List.length_nil]; omega) (by (have := List.length_filter_le (fun f : FldD => !decide (f.at_ = r)) (l.take k)); (have h2 := List.length_take_le k l); simp only [List.length_map, List.length_cons, List.length_nil]; omega) ?_); refine AL.n ?_; refine AL.ra ?_; refine AL.nil ?_; change AW _ _ _ _ _; refine AW.region ?_; refine AL.r (rd_arith_add rfl rfl rfl (by first | exact IntWalk.i64_in _ (by omega) | rfl)) ?_
      refine AL.rm ?_; refine AL.nil ?_; refine ⟨⟨k + 1, g + 1⟩, ?_, by first | omega | (simp only []; omega), ?_, ?_⟩
      ·show k + 1 ≤ l.length; omega
      ·simp only [anys, upds, offs, List.set_cons_zero, List.set_cons_succ]; repeat (first | exact Wk.nil | refine Wk.same ?_ | refine Wk.any ?_)
      ·simp only [anys, upds, offs, List.set_cons_zero, List.set_cons_succ]; repeat (first | exact Sk.nil _ | refine Sk.same _ ?_ | refine Sk.scr _ (by decide) ?_ | refine Sk.eq _ (by first | exact congrArg (fun xs => TK.mk (g + 1) (.own 47 7 xs)) (take_filter_t (p := fun f : FldD => !decide (f.at_ = r)) (f := FldD.cs) (by omega) (by rw [decide_eq_false (fun e => h31 ((idxS_at hs (by omega)).1 e))]; rfl)) | exact congrArg (fun xs => TK.mk g (.own 47 7 xs)) (take_filter_f (p := fun f : FldD => !decide (f.at_ = r)) (f := FldD.cs) (by omega) (by rw [decide_eq_true ((idxS_at hs (by omega)).2 h31)]; rfl))) ?_)
     ·refine AW.skip ?_; change AW _ _ _ _ _; refine AW.region ?_; refine AL.r (rd_arith_add rfl rfl rfl (by first | exact IntWalk.i64_in _ (by omega) | rfl)) ?_; refine AL.rm ?_; refine AL.nil ?_; refine ⟨⟨k + 1, g⟩, ?_, by first | omega | (simp only []; omega), ?_, ?_⟩
      ·show k + 1 ≤ l.length; omega
      ·simp only [anys, upds, offs, List.set_cons_zero, List.set_cons_succ]; repeat (first | exact Wk.nil | refine Wk.same ?_ | refine Wk.any ?_)
      ·simp only [anys, upds, offs, List.set_cons_zero, List.set_cons_succ]; repeat (first | exact Sk.nil _ | refine Sk.same _ ?_ | refine Sk.scr _ (by decide) ?_ | refine Sk.eq _ (by first | exact congrArg (fun xs => TK.mk (g + 1) (.own 47 7 xs)) (take_filter_t (p := fun f : FldD => !decide (f.at_ = r)) (f := FldD.cs) (by omega) (by rw [decide_eq_false (fun e => h31 ((idxS_at hs (by omega)).1 e))]; rfl)) | exact congrArg (fun xs => TK.mk g (.own 47 7 xs)) (take_filter_f (p := fun f : FldD => !decide (f.at_ = r)) (f := FldD.cs) (by omega) (by rw [decide_eq_true ((idxS_at hs (by omega)).2 h31)]; rfl))) ?_)
    ·refine AW.exit ?_; change AW _ _ _ _ _; refine AW.seq ?_; refine AW.region ?_; refine AL.rm ?_; refine AL.ra ?_; refine AL.ra ?_; refine AL.nil ?_; change AW _ _ _ _ _; refine AW.ret ?_; change ResA _ _ _ _ _; refine res2 rfl (ResV.tmp rfl) (by first | rfl | exact setA_own rfl) (ResV.tmp rfl) rfl ?_
     (have e : lessW l r = (l.filter fun f => !decide (f.at_ = r), 0) := by (unfold lessW; rw [if_neg (by simp_all), if_neg (by omega)])); rw [e, List.take_of_length_le (by omega)]
theorem smallS.with_ {l : List FldD} {f : FldD} (h : smallS l) (hl : l.length ≤ 40) (hf : f.cases.length ≤ 1000000) : smallS (withS l f).1 := by
  rcases withS_cases l f with e | e
  · rw [e.1]; exact ⟨by simp, by simp⟩
  · rw [e]
    have := cutS_le l f.at_
    refine ⟨?_, fun x hx => ?_⟩
    · simp only [putS, List.length_append, List.length_cons, List.length_take, List.length_drop]; omega
    · simp only [putS, List.mem_append, List.mem_cons] at hx
      rcases hx with hx | hx | hx
      · exact h.2 x (List.mem_of_mem_take hx)
      · rw [hx]; exact hf
      · exact h.2 x (List.mem_of_mem_drop hx)
theorem smallS.less {l : List FldD} {r : RefD} (h : smallS l) : smallS (lessW l r).1 := by
  unfold lessW
  split
  · exact ⟨by simp, by simp⟩
  split
  · exact ⟨by simp, by simp⟩
  · exact h.filter _
end Go.Proofs.Ytdgcbhihmnhnaaa
