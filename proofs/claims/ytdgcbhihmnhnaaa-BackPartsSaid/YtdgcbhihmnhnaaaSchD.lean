/- Schemas that take in or lose a field, on: the plain law of their order, and the walks. Conditions: small schemas. -/
import Derived.Test.YtdgcbhihmnhnaaaSchC
namespace Go.Proofs.Ytdgcbhihmnhnaaa
set_option linter.unusedSimpArgs false
set_option linter.unusedVariables false
set_option maxRecDepth 100000
open Go.RowKit

theorem rwith14 (l : List FldD) (f : FldD) (hl : smallS l) (hf : f.cases.length ≤ 1000000) : AC Try.prog 163 [.sl (l.map FldD.cs), f.av] (fun x => x = .s (.tu [.sl ((withS l f).1.map FldD.cs), AI (withS l f).2])) := by
  have hl1 := hl.1
  have hcl := cutS_le l f.at_
  refine AC.of' 64 8 Try.func163 rfl ?_
  change AW _ _ _ _ [TK.mk 0 .off, TK.mk 0 .off, TK.mk 0 .off, TK.mk 0 .off, TK.mk 0 .off, TK.mk 0 .off, TK.mk 0 .off, TK.mk 0 .off]
  refine AW.seq ?_
  refine AW.region ?_
  refine AL.op rfl (AOpB.op (op_box 0 rfl rfl rfl rfl rfl ?_))
  refine AL.n ?_
  refine AL.ra ?_
  refine AL.ra ?_
  refine AL.nil ?_
  change AW _ _ _ _ _
  refine AW.seq ?_
  refine AW.seq ?_
  refine AW.region ?_
  refine AL.rm ?_
  refine AL.op rfl (AOpB.op (op_call (rright14 l hl) rfl (by kernel_rfl) rfl (none) ?_))
  rintro r rfl
  refine AL.n ?_
  refine AL.r (rd_un rfl rfl (fun _ => rfl)) ?_
  refine AL.rm ?_
  refine AL.fk (d := 11) rfl (fun h11 => ?_) (fun h11 => ?_)
  ·skip
   refine AL.n ?_
   refine AL.rf ?_
   refine AL.rf ?_
   refine AL.rf ?_
   refine AL.r (rd_pick_t rfl rfl rfl) ?_
   refine AL.nil ?_
   change AW _ _ _ _ _
   refine AW.cond_t rfl ?_
   refine AW.seq ?_
   refine AW.region ?_
   refine AL.ra ?_
   refine AL.ra ?_
   refine AL.nil ?_
   change AW _ _ _ _ _
   refine AW.ret ?_
   change ResA _ _ _ _ _
   refine res2 rfl (ResV.tmp rfl) rfl (ResV.tmp rfl) rfl ?_
   (have e : withS l f = ([], 5) := by (unfold withS; rw [if_pos (by simp_all)])); rw [e]; rfl
  ·skip
   refine AL.n ?_
   refine AL.ro (rd_loadN_bx rfl ag_47 rfl rfl (Nat.le_of_ble_eq_true rfl) rfl) ?_
   refine AL.on rfl rfl rfl (AOpB.op (op_call (rright13 f (by omega)) rfl (by kernel_rfl) rfl (none) ?_))
   rintro r rfl
   refine AL.n ?_
   refine AL.ro (rd_un rfl rfl (fun _ => rfl)) ?_
   refine AL.r (rd_pick_f rfl rfl rfl) ?_
   refine AL.nil ?_
   change AW _ _ _ _ _
   refine AW.cd rfl (fun h15 => ?_) (fun h15 => ?_)
   ·skip
    refine AW.seq ?_
    refine AW.region ?_
    refine AL.ra ?_
    refine AL.ra ?_
    refine AL.nil ?_
    change AW _ _ _ _ _
    refine AW.ret ?_
    change ResA _ _ _ _ _
    refine res2 rfl (ResV.tmp rfl) rfl (ResV.tmp rfl) rfl ?_
    (have e : withS l f = ([], 5) := by (unfold withS; rw [if_pos (by simp_all)])); rw [e]; rfl
   ·skip
    refine AW.skip ?_
    change AW _ _ _ _ _
    refine AW.seq ?_
    refine AW.seq ?_
    refine AW.region ?_
    refine AL.rm ?_
    refine AL.r (rd_faddr_bx rfl fo_47_0 rfl rfl ⟨_, _, rfl⟩) ?_
    refine AL.r (rd_loadN_bx rfl ag_44 rfl rfl (Nat.le_of_ble_eq_true rfl) rfl) ?_
    refine AL.op rfl (AOpB.op (op_call (rat_c l f.at_ (by omega)) rfl (by kernel_rfl) rfl (none) ?_))
    rintro r rfl
    refine AL.n ?_
    refine AL.r (rd_bin rfl rfl rfl (fun _ => rfl)) ?_
    refine AL.nil ?_
    change AW _ _ _ _ _
    refine AW.cd rfl (fun h20 => ?_) (fun h20 => ?_)
    ·skip
     refine AW.seq ?_
     refine AW.region ?_
     refine AL.ra ?_
     refine AL.ra ?_
     refine AL.nil ?_
     change AW _ _ _ _ _
     refine AW.ret ?_
     change ResA _ _ _ _ _
     refine res2 rfl (ResV.tmp rfl) rfl (ResV.tmp rfl) rfl ?_
     (have e : withS l f = ([], 7) := by (unfold withS; rw [if_neg (by simp_all), if_pos (by omega)])); rw [e]; rfl
    ·skip
     refine AW.skip ?_
     change AW _ _ _ _ _
     refine AW.seq ?_
     refine AW.seq ?_
     refine AW.region ?_
     refine AL.rm ?_
     refine AL.r (rd_len_sl rfl el_42 rfl) ?_
     refine AL.r (rd_bin rfl rfl rfl (fun _ => rfl)) ?_
     refine AL.nil ?_
     change AW _ _ _ _ _
     refine AW.cd rfl (fun h23 => ?_) (fun h23 => ?_)
     ·skip
      refine AW.seq ?_
      refine AW.region ?_
      refine AL.ra ?_
      refine AL.ra ?_
      refine AL.nil ?_
      change AW _ _ _ _ _
      refine AW.ret ?_
      change ResA _ _ _ _ _
      refine res2 rfl (ResV.tmp rfl) rfl (ResV.tmp rfl) rfl ?_
      (have e : withS l f = ([], 14) := by (unfold withS; rw [if_neg (by simp_all), if_neg (by omega), if_pos (by omega)])); rw [e]; rfl
     ·skip
      refine AW.skip ?_
      change AW _ _ _ _ _
      refine AW.seq ?_
      refine AW.region ?_
      refine AL.op rfl (AOpB.op (bs_own 1 rfl ap_42 ze_47 rfl rfl rfl ?_))
      refine AL.n ?_
      refine AL.ra ?_
      refine AL.nil ?_
      change AW _ _ _ _ _
      refine AW.seq ?_
      refine AW.region ?_
      refine AL.ra ?_
      refine AL.nil ?_
      change AW _ _ _ _ _
      refine AW.seq ?_
      refine AW.block ?_
      refine AW.loopM (ι := Nat × Nat) [25, 26, 27, 28, 29, 30, 31, 32, 33, 34, 35, 36, 37, 38, 39, 40, 41, 42, 43, 44, 45, 46, 47] (fun ⟨k, g⟩ => [(6, .ow 1 g), (7, AI (k : Int))]) [2, 3] (fun ⟨k, g⟩ => [(1, ⟨g, .own 47 7 ((l.take k).map FldD.cs)⟩)]) (fun ⟨k, g⟩ => k ≤ cutS l f.at_) (fun ⟨k, g⟩ => l.length - k) ⟨0, 1⟩ (Nat.zero_le _) (by simp only [anys, upds, offs, List.set_cons_zero, List.set_cons_succ]; repeat (first | exact Wk.nil | refine Wk.same ?_ | refine Wk.any ?_)) (by simp only [anys, upds, offs, List.set_cons_zero, List.set_cons_succ]; repeat (first | exact Sk.nil _ | refine Sk.same _ ?_ | refine Sk.scr _ (by decide) ?_)) ?_
      rintro ⟨k, g⟩ gs hJ
      refine AW.norm (by simp only [anys, upds, offs, List.set_cons_zero, List.set_cons_succ]; rfl) (by (try simp only [anys, upds, offs, List.set_cons_zero, List.set_cons_succ]); (try rfl)) ?_
      refine AW.seq ?_
      refine AW.seq ?_
      refine AW.draw (by kernel_rfl) ?_
      refine AD.r 0 rfl (rd_move rfl rfl) rfl ?_
      refine AD.r 1 rfl (rd_move rfl rfl) rfl ?_
      refine AD.r 2 rfl (rd_len_sl rfl el_42 rfl) rfl ?_
      refine AD.r 3 rfl (rd_bin rfl rfl rfl (fun _ => rfl)) rfl ?_
      refine AD.r 4 rfl (rd_move rfl rfl) rfl ?_
      refine AD.fk (d := 29) rfl (fun h29 => ?_) (fun h29 => ?_)
      ·skip
       refine AD.n ?_
       refine AD.r 5 rfl (rd_move rfl rfl) ⟨_, _, rfl, rfl, rfl⟩ ?_
       refine AD.r 6 rfl (rd_move rfl rfl) ⟨_, _, rfl, rfl, rfl⟩ ?_
       refine AD.r 7 rfl (rd_iaddr_sl rfl el_42 rfl rfl rfl (get_mapA (by omega)) rfl) ⟨_, _, rfl, rfl, rfl⟩ ?_
       refine AD.r 8 rfl (rd_faddr_ep rfl fo_47_0 rfl) ⟨_, _, rfl, rfl, rfl⟩ ?_
       refine AD.r 9 rfl (rd_loadN_ep rfl ag_44 rfl (Nat.le_of_ble_eq_true rfl) rfl) ⟨_, _, rfl, rfl, rfl⟩ ?_
       refine AD.r 10 rfl (rd_faddr_bx rfl fo_47_0 rfl rfl ⟨_, _, rfl⟩) ⟨_, _, rfl, rfl, rfl⟩ ?_
       refine AD.r 11 rfl (rd_loadN_bx rfl ag_44 rfl rfl (Nat.le_of_ble_eq_true rfl) rfl) ⟨_, _, rfl, rfl, rfl⟩ ?_
       refine AD.move 12 rfl (by kernel_rfl) ⟨_, _, rfl, rfl, rfl⟩ (op_call (rless_c (l[k]'(by omega)).at_ f.at_) rfl (by kernel_rfl) rfl (none) ?_)
       rintro r rfl
       refine AD.n ?_
       refine AD.r 13 rfl (rd_pick_t rfl rfl rfl) rfl ?_
       refine AD.done (by kernel_rfl) ?_
       change AW _ _ _ _ _
       refine AW.cd rfl (fun h38 => ?_) (fun h38 => ?_)
       ·skip
        refine AW.skip ?_
        change AW _ _ _ _ _
        refine AW.block ?_
        refine AW.seq ?_
        refine AW.region ?_
        refine AL.rm ?_
        refine AL.rm ?_
        refine AL.rm ?_
        refine AL.r (rd_iaddr_sl rfl el_42 rfl rfl rfl (get_mapA (by omega)) rfl) ?_
        refine AL.r (rd_loadN_ep rfl ag_47 rfl (Nat.le_of_ble_eq_true rfl) rfl) ?_
        refine AL.op rfl (AOpB.op (bs_set rfl ap_42 ze_47 rfl rfl ?_))
        refine AL.n ?_
        refine AL.op rfl (op_append rfl ap_42 rfl rfl (src_s rfl) (by first | omega | (simp; omega) | simp) (by first | omega | (simp; omega) | simp) ?_)
        refine AL.n ?_
        refine AL.ra ?_
        refine AL.nil ?_
        change AW _ _ _ _ _
        refine AW.region ?_
        refine AL.rm ?_
        refine AL.r (rd_arith_add rfl rfl rfl (by first | exact IntWalk.i64_in _ (by omega) | rfl)) ?_
        refine AL.ra ?_
        refine AL.nil ?_
        refine ⟨⟨k + 1, g + 1⟩, ?_, by first | omega | (simp only []; omega), ?_, ?_⟩
        ·exact cutS_t hJ (by omega) h38
        ·simp only [anys, upds, offs, List.set_cons_zero, List.set_cons_succ]; repeat (first | exact Wk.nil | refine Wk.same ?_ | refine Wk.any ?_)
        ·simp only [anys, upds, offs, List.set_cons_zero, List.set_cons_succ]; repeat (first | exact Sk.nil _ | refine Sk.same _ ?_ | refine Sk.scr _ (by decide) ?_ | refine Sk.eq _ (by exact congrArg (fun xs => TK.mk (g + 1) (.own 47 7 xs)) (take_map_next (f := FldD.cs) (by omega))) ?_)
       ·skip
        refine AW.exit ?_
        change AW _ _ _ _ _
        refine AW.seq ?_
        refine AW.region ?_
        (have e : cutS l f.at_ = k := by first | exact cutS_f hJ (by omega) h38 | omega); subst e
        refine AL.rm ?_
        refine AL.r (rd_loadN_bx rfl ag_47 rfl rfl (Nat.le_of_ble_eq_true rfl) rfl) ?_
        refine AL.op rfl (AOpB.op (bs_set rfl ap_42 ze_47 rfl rfl ?_))
        refine AL.n ?_
        refine AL.op rfl (op_append rfl ap_42 rfl rfl (src_s rfl) (by first | omega | (simp; omega) | simp) (by first | omega | (simp; omega) | simp) ?_)
        refine AL.n ?_
        refine AL.ra ?_
        refine AL.nil ?_
        change AW _ _ _ _ _
        refine AW.seq ?_
        refine AW.block ?_
        refine AW.loopM (ι := Nat × Nat) [52, 53, 54, 55, 56, 57, 58, 59, 60, 61, 62, 63, 64] (fun ⟨k, g⟩ => [(6, .ow 1 g), (7, AI (k : Int))]) [6, 7] (fun ⟨k, g⟩ => [(1, ⟨g, .own 47 7 ((l.take (cutS l f.at_) ++ f :: (l.drop (cutS l f.at_)).take (k - cutS l f.at_)).map FldD.cs)⟩)]) (fun ⟨k, g⟩ => cutS l f.at_ ≤ k ∧ k ≤ l.length) (fun ⟨k, g⟩ => l.length - k) ⟨cutS l f.at_, g + 1⟩ (⟨Nat.le_refl _, hcl⟩) (by simp only [anys, upds, offs, List.set_cons_zero, List.set_cons_succ]; repeat (first | exact Wk.nil | refine Wk.same ?_ | refine Wk.any ?_)) (by simp only [anys, upds, offs, List.set_cons_zero, List.set_cons_succ]; repeat (first | exact Sk.nil _ | refine Sk.same _ ?_ | refine Sk.scr _ (by decide) ?_ | refine Sk.eq _ (by exact congrArg (fun xs => TK.mk (g + 1) (.own 47 7 xs)) put_first) ?_)) ?_
        rintro ⟨k, g⟩ gs hJ
        refine AW.norm (by simp only [anys, upds, offs, List.set_cons_zero, List.set_cons_succ]; rfl) (by (try simp only [anys, upds, offs, List.set_cons_zero, List.set_cons_succ]); (try rfl)) ?_
        obtain ⟨hk, hk2⟩ := hJ
        refine AW.seq ?_
        refine AW.seq ?_
        refine AW.region ?_
        refine AL.rm ?_
        refine AL.rm ?_
        refine AL.r (rd_len_sl rfl el_42 rfl) ?_
        refine AL.r (rd_bin rfl rfl rfl (fun _ => rfl)) ?_
        refine AL.nil ?_
        change AW _ _ _ _ _
        refine AW.cd rfl (fun h55 => ?_) (fun h55 => ?_)
        ·skip
         refine AW.skip ?_
         change AW _ _ _ _ _
         refine AW.block ?_
         refine AW.seq ?_
         refine AW.region ?_
         refine AL.rm ?_
         refine AL.rm ?_
         refine AL.rm ?_
         refine AL.r (rd_iaddr_sl rfl el_42 rfl rfl rfl (get_mapA (by omega)) rfl) ?_
         refine AL.r (rd_loadN_ep rfl ag_47 rfl (Nat.le_of_ble_eq_true rfl) rfl) ?_
         refine AL.op rfl (AOpB.op (bs_set rfl ap_42 ze_47 rfl rfl ?_))
         refine AL.n ?_
         refine AL.op rfl (op_append rfl ap_42 rfl rfl (src_s rfl) (by have := put_len (l := l) (c := cutS l f.at_) (k := k) (f := f); simp only [List.length_map, List.length_cons, List.length_nil]; omega) (by have := put_len (l := l) (c := cutS l f.at_) (k := k) (f := f); simp only [List.length_map, List.length_cons, List.length_nil]; omega) ?_)
         refine AL.n ?_
         refine AL.ra ?_
         refine AL.nil ?_
         change AW _ _ _ _ _
         refine AW.region ?_
         refine AL.rm ?_
         refine AL.r (rd_arith_add rfl rfl rfl (by first | exact IntWalk.i64_in _ (by omega) | rfl)) ?_
         refine AL.ra ?_
         refine AL.nil ?_
         refine ⟨⟨k + 1, g + 1⟩, ?_, by first | omega | (simp only []; omega), ?_, ?_⟩
         ·(exact ⟨by omega, by omega⟩)
         ·simp only [anys, upds, offs, List.set_cons_zero, List.set_cons_succ]; repeat (first | exact Wk.nil | refine Wk.same ?_ | refine Wk.any ?_)
         ·simp only [anys, upds, offs, List.set_cons_zero, List.set_cons_succ]; repeat (first | exact Sk.nil _ | refine Sk.same _ ?_ | refine Sk.scr _ (by decide) ?_ | refine Sk.eq _ (by exact congrArg (fun xs => TK.mk (g + 1) (.own 47 7 xs)) (put_next (g := FldD.cs) hk (by omega))) ?_)
        ·skip
         refine AW.exit ?_
         change AW _ _ _ _ _
         refine AW.seq ?_
         refine AW.region ?_
         refine AL.rm ?_
         refine AL.ra ?_
         refine AL.ra ?_
         refine AL.nil ?_
         change AW _ _ _ _ _
         refine AW.ret ?_
         change ResA _ _ _ _ _
         refine res2 rfl (ResV.tmp rfl) (by first | rfl | exact setA_own rfl) (ResV.tmp rfl) rfl ?_
         (have hW : withS l f = (putS l f, 0) := by (unfold withS; rw [if_neg (by simp_all), if_neg (by omega), if_neg (by omega)])); rw [hW, put_end (by omega)]; rfl
      ·skip
       refine AD.n ?_
       refine AD.s 5 rfl ⟨_, _, rfl, rfl, rfl⟩ ?_
       refine AD.s 6 rfl ⟨_, _, rfl, rfl, rfl⟩ ?_
       refine AD.s 7 rfl ⟨_, _, rfl, rfl, rfl⟩ ?_
       refine AD.s 8 rfl ⟨_, _, rfl, rfl, rfl⟩ ?_
       refine AD.s 9 rfl ⟨_, _, rfl, rfl, rfl⟩ ?_
       refine AD.s 10 rfl ⟨_, _, rfl, rfl, rfl⟩ ?_
       refine AD.s 11 rfl ⟨_, _, rfl, rfl, rfl⟩ ?_
       refine AD.s 12 rfl ⟨_, _, rfl, rfl, rfl⟩ ?_
       refine AD.r 13 rfl (rd_pick_f rfl rfl rfl) rfl ?_
       refine AD.done (by kernel_rfl) ?_
       change AW _ _ _ _ _
       refine AW.cond_f rfl ?_
       refine AW.exit ?_
       change AW _ _ _ _ _
       refine AW.seq ?_
       refine AW.region ?_
       (have e : cutS l f.at_ = k := by first | exact cutS_f hJ (by omega) h38 | omega); subst e
       refine AL.rm ?_
       refine AL.r (rd_loadN_bx rfl ag_47 rfl rfl (Nat.le_of_ble_eq_true rfl) rfl) ?_
       refine AL.op rfl (AOpB.op (bs_set rfl ap_42 ze_47 rfl rfl ?_))
       refine AL.n ?_
       refine AL.op rfl (op_append rfl ap_42 rfl rfl (src_s rfl) (by first | omega | (simp; omega) | simp) (by first | omega | (simp; omega) | simp) ?_)
       refine AL.n ?_
       refine AL.ra ?_
       refine AL.nil ?_
       change AW _ _ _ _ _
       refine AW.seq ?_
       refine AW.block ?_
       refine AW.loopM (ι := Nat × Nat) [52, 53, 54, 55, 56, 57, 58, 59, 60, 61, 62, 63, 64] (fun ⟨k, g⟩ => [(6, .ow 1 g), (7, AI (k : Int))]) [6, 7] (fun ⟨k, g⟩ => [(1, ⟨g, .own 47 7 ((l.take (cutS l f.at_) ++ f :: (l.drop (cutS l f.at_)).take (k - cutS l f.at_)).map FldD.cs)⟩)]) (fun ⟨k, g⟩ => cutS l f.at_ ≤ k ∧ k ≤ l.length) (fun ⟨k, g⟩ => l.length - k) ⟨cutS l f.at_, g + 1⟩ (⟨Nat.le_refl _, hcl⟩) (by simp only [anys, upds, offs, List.set_cons_zero, List.set_cons_succ]; repeat (first | exact Wk.nil | refine Wk.same ?_ | refine Wk.any ?_)) (by simp only [anys, upds, offs, List.set_cons_zero, List.set_cons_succ]; repeat (first | exact Sk.nil _ | refine Sk.same _ ?_ | refine Sk.scr _ (by decide) ?_ | refine Sk.eq _ (by exact congrArg (fun xs => TK.mk (g + 1) (.own 47 7 xs)) put_first) ?_)) ?_
       rintro ⟨k, g⟩ gs hJ
       refine AW.norm (by simp only [anys, upds, offs, List.set_cons_zero, List.set_cons_succ]; rfl) (by (try simp only [anys, upds, offs, List.set_cons_zero, List.set_cons_succ]); (try rfl)) ?_
       obtain ⟨hk, hk2⟩ := hJ
       refine AW.seq ?_
       refine AW.seq ?_
       refine AW.region ?_
       refine AL.rm ?_
       refine AL.rm ?_
       refine AL.r (rd_len_sl rfl el_42 rfl) ?_
       refine AL.r (rd_bin rfl rfl rfl (fun _ => rfl)) ?_
       refine AL.nil ?_
       change AW _ _ _ _ _
       refine AW.cd rfl (fun h55 => ?_) (fun h55 => ?_)
       ·skip
        refine AW.skip ?_
        change AW _ _ _ _ _
        refine AW.block ?_
        refine AW.seq ?_
        refine AW.region ?_
        refine AL.rm ?_
        refine AL.rm ?_
        refine AL.rm ?_
        refine AL.r (rd_iaddr_sl rfl el_42 rfl rfl rfl (get_mapA (by omega)) rfl) ?_
        refine AL.r (rd_loadN_ep rfl ag_47 rfl (Nat.le_of_ble_eq_true rfl) rfl) ?_
        refine AL.op rfl (AOpB.op (bs_set rfl ap_42 ze_47 rfl rfl ?_))
        refine AL.n ?_
        refine AL.op rfl (op_append rfl ap_42 rfl rfl (src_s rfl) (by have := put_len (l := l) (c := cutS l f.at_) (k := k) (f := f); simp only [List.length_map, List.length_cons, List.length_nil]; omega) (by have := put_len (l := l) (c := cutS l f.at_) (k := k) (f := f); simp only [List.length_map, List.length_cons, List.length_nil]; omega) ?_)
        refine AL.n ?_
        refine AL.ra ?_
        refine AL.nil ?_
        change AW _ _ _ _ _
        refine AW.region ?_
        refine AL.rm ?_
        refine AL.r (rd_arith_add rfl rfl rfl (by first | exact IntWalk.i64_in _ (by omega) | rfl)) ?_
        refine AL.ra ?_
        refine AL.nil ?_
        refine ⟨⟨k + 1, g + 1⟩, ?_, by first | omega | (simp only []; omega), ?_, ?_⟩
        ·(exact ⟨by omega, by omega⟩)
        ·simp only [anys, upds, offs, List.set_cons_zero, List.set_cons_succ]; repeat (first | exact Wk.nil | refine Wk.same ?_ | refine Wk.any ?_)
        ·simp only [anys, upds, offs, List.set_cons_zero, List.set_cons_succ]; repeat (first | exact Sk.nil _ | refine Sk.same _ ?_ | refine Sk.scr _ (by decide) ?_ | refine Sk.eq _ (by exact congrArg (fun xs => TK.mk (g + 1) (.own 47 7 xs)) (put_next (g := FldD.cs) hk (by omega))) ?_)
       ·skip
        refine AW.exit ?_
        change AW _ _ _ _ _
        refine AW.seq ?_
        refine AW.region ?_
        refine AL.rm ?_
        refine AL.ra ?_
        refine AL.ra ?_
        refine AL.nil ?_
        change AW _ _ _ _ _
        refine AW.ret ?_
        change ResA _ _ _ _ _
        refine res2 rfl (ResV.tmp rfl) (by first | rfl | exact setA_own rfl) (ResV.tmp rfl) rfl ?_
        (have hW : withS l f = (putS l f, 0) := by (unfold withS; rw [if_neg (by simp_all), if_neg (by omega), if_neg (by omega)])); rw [hW, put_end (by omega)]; rfl
def lessW (l : List FldD) (r : RefD) : List FldD × Int := if !rightS l then ([], 5) else if idxS l r < 0 then ([], 6) else (l.filter fun f => !decide (f.at_ = r), 0)
theorem rwithout14 (l : List FldD) (r : RefD) (hl : smallS l) : AC Try.prog 116 [.sl (l.map FldD.cs), r.av] (fun x => x = .s (.tu [.sl ((lessW l r).1.map FldD.cs), AI (lessW l r).2])) := by
  have hl1 := hl.1
  refine AC.of' 35 4 Try.func116 rfl ?_
  change AW _ _ _ _ [TK.mk 0 .off, TK.mk 0 .off, TK.mk 0 .off, TK.mk 0 .off]
  refine AW.seq ?_
  refine AW.region ?_
  refine AL.op rfl (AOpB.op (op_box 0 rfl rfl rfl rfl rfl ?_))
  refine AL.n ?_
  refine AL.ra ?_
  refine AL.ra ?_
  refine AL.nil ?_
  change AW _ _ _ _ _
  refine AW.seq ?_
  refine AW.seq ?_
  refine AW.region ?_
  refine AL.rm ?_
  refine AL.op rfl (AOpB.op (op_call (rright14 l hl) rfl (by kernel_rfl) rfl (none) ?_))
  rintro r rfl
  refine AL.n ?_
  refine AL.r (rd_un rfl rfl (fun _ => rfl)) ?_
  refine AL.nil ?_
  change AW _ _ _ _ _
  refine AW.cd rfl (fun h10 => ?_) (fun h10 => ?_)
  ·skip
   refine AW.seq ?_
   refine AW.region ?_
   refine AL.ra ?_
   refine AL.ra ?_
   refine AL.nil ?_
   change AW _ _ _ _ _
   refine AW.ret ?_
   change ResA _ _ _ _ _
   refine res2 rfl (ResV.tmp rfl) rfl (ResV.tmp rfl) rfl ?_
   (have e : lessW l r = ([], 5) := by (unfold lessW; rw [if_pos (by simp_all)])); rw [e]; rfl
  ·skip
   refine AW.skip ?_
   change AW _ _ _ _ _
   refine AW.seq ?_
   refine AW.seq ?_
   refine AW.region ?_
   refine AL.rm ?_
   refine AL.r (rd_loadN_bx rfl ag_44 rfl rfl (Nat.le_of_ble_eq_true rfl) rfl) ?_
   refine AL.op rfl (AOpB.op (op_call (rat_c l r (by omega)) rfl (by kernel_rfl) rfl (none) ?_))
   rintro r rfl
   refine AL.n ?_
   refine AL.r (rd_bin rfl rfl rfl (fun _ => rfl)) ?_
   refine AL.nil ?_
   change AW _ _ _ _ _
   refine AW.cd rfl (fun h14 => ?_) (fun h14 => ?_)
   ·skip
    refine AW.seq ?_
    refine AW.region ?_
    refine AL.ra ?_
    refine AL.ra ?_
    refine AL.nil ?_
    change AW _ _ _ _ _
    refine AW.ret ?_
    change ResA _ _ _ _ _
    refine res2 rfl (ResV.tmp rfl) rfl (ResV.tmp rfl) rfl ?_
    (have e : lessW l r = ([], 6) := by (unfold lessW; rw [if_neg (by simp_all), if_pos (by omega)])); rw [e]; rfl
   ·skip
    refine AW.skip ?_
    change AW _ _ _ _ _
    refine AW.seq ?_
    refine AW.region ?_
    refine AL.op rfl (AOpB.op (bs_own 1 rfl ap_42 ze_47 rfl rfl rfl ?_))
    refine AL.n ?_
    refine AL.ra ?_
    refine AL.nil ?_
    change AW _ _ _ _ _
    refine AW.seq ?_
    refine AW.seq ?_
    refine AW.region ?_
    refine AL.ra ?_
    refine AL.nil ?_
    change AW _ _ _ _ _
    refine AW.block ?_
    refine AW.loopM (ι := Nat × Nat) [16, 17, 18, 19, 20, 21, 22, 23, 24, 25, 26, 27, 28, 29, 30, 31, 32, 33, 34, 35] (fun ⟨k, g⟩ => [(6, .ow 1 g), (7, AI (k : Int))]) [2, 3] (fun ⟨k, g⟩ => [(1, ⟨g, .own 47 7 (((l.take k).filter fun f => !decide (f.at_ = r)).map FldD.cs)⟩)]) (fun ⟨k, g⟩ => k ≤ l.length) (fun ⟨k, g⟩ => l.length - k) ⟨0, 1⟩ (Nat.zero_le _) (by simp only [anys, upds, offs, List.set_cons_zero, List.set_cons_succ]; repeat (first | exact Wk.nil | refine Wk.same ?_ | refine Wk.any ?_)) (by simp only [anys, upds, offs, List.set_cons_zero, List.set_cons_succ]; repeat (first | exact Sk.nil _ | refine Sk.same _ ?_ | refine Sk.scr _ (by decide) ?_)) ?_
    rintro ⟨k, g⟩ gs hJ
    refine AW.norm (by simp only [anys, upds, offs, List.set_cons_zero, List.set_cons_succ]; rfl) (by (try simp only [anys, upds, offs, List.set_cons_zero, List.set_cons_succ]); (try rfl)) ?_
    refine AW.seq ?_
    refine AW.seq ?_
    refine AW.region ?_
    refine AL.rm ?_
    refine AL.rm ?_
    refine AL.r (rd_len_sl rfl el_42 rfl) ?_
    refine AL.r (rd_bin rfl rfl rfl (fun _ => rfl)) ?_
    refine AL.nil ?_
    change AW _ _ _ _ _
    refine AW.cd rfl (fun h19 => ?_) (fun h19 => ?_)
    ·skip
     refine AW.skip ?_
     change AW _ _ _ _ _
     refine AW.seq ?_
     refine AW.block ?_
     refine AW.seq ?_
     refine AW.draw (by kernel_rfl) ?_
     refine AD.r 0 rfl (rd_move rfl rfl) rfl ?_
     refine AD.r 1 rfl (rd_move rfl rfl) rfl ?_
     refine AD.r 2 rfl (rd_iaddr_sl rfl el_42 rfl rfl rfl (get_mapA (by omega)) rfl) rfl ?_
     refine AD.r 3 rfl (rd_faddr_ep rfl fo_47_0 rfl) rfl ?_
     refine AD.r 4 rfl (rd_loadN_ep rfl ag_44 rfl (Nat.le_of_ble_eq_true rfl) rfl) rfl ?_
     refine AD.r 5 rfl (rd_loadN_bx rfl ag_44 rfl rfl (Nat.le_of_ble_eq_true rfl) rfl) rfl ?_
     refine AD.r 6 rfl (rd_ne_Ref rfl rfl rfl) rfl ?_
     refine AD.done (by kernel_rfl) ?_
     change AW _ _ _ _ _
     refine AW.cd rfl (fun h28 => ?_) (fun h28 => ?_)
     ·skip
      refine AW.region ?_
      refine AL.rm ?_
      refine AL.rm ?_
      refine AL.rm ?_
      refine AL.r (rd_iaddr_sl rfl el_42 rfl rfl rfl (get_mapA (by omega)) rfl) ?_
      refine AL.r (rd_loadN_ep rfl ag_47 rfl (Nat.le_of_ble_eq_true rfl) rfl) ?_
      refine AL.op rfl (AOpB.op (bs_set rfl ap_42 ze_47 rfl rfl ?_))
      refine AL.n ?_
      refine AL.op rfl (op_append rfl ap_42 rfl rfl (src_s rfl) (by (have := List.length_filter_le (fun f : FldD => !decide (f.at_ = r)) (l.take k)); (have h2 := List.length_take_le k l); simp only [List.length_map, List.length_cons, List.length_nil]; omega) (by (have := List.length_filter_le (fun f : FldD => !decide (f.at_ = r)) (l.take k)); (have h2 := List.length_take_le k l); simp only [List.length_map, List.length_cons, List.length_nil]; omega) ?_)
      refine AL.n ?_
      refine AL.ra ?_
      refine AL.nil ?_
      change AW _ _ _ _ _
      refine AW.region ?_
      refine AL.rm ?_
      refine AL.r (rd_arith_add rfl rfl rfl (by first | exact IntWalk.i64_in _ (by omega) | rfl)) ?_
      refine AL.ra ?_
      refine AL.nil ?_
      refine ⟨⟨k + 1, g + 1⟩, ?_, by first | omega | (simp only []; omega), ?_, ?_⟩
      ·show k + 1 ≤ l.length; omega
      ·simp only [anys, upds, offs, List.set_cons_zero, List.set_cons_succ]; repeat (first | exact Wk.nil | refine Wk.same ?_ | refine Wk.any ?_)
      ·simp only [anys, upds, offs, List.set_cons_zero, List.set_cons_succ]; repeat (first | exact Sk.nil _ | refine Sk.same _ ?_ | refine Sk.scr _ (by decide) ?_ | refine Sk.eq _ (by first | exact congrArg (fun xs => TK.mk (g + 1) (.own 47 7 xs)) (take_filter_t (p := fun f : FldD => !decide (f.at_ = r)) (f := FldD.cs) (by omega) (by rw [decide_eq_false (show ¬ l[k].at_ = r from h28)]; rfl)) | exact congrArg (fun xs => TK.mk g (.own 47 7 xs)) (take_filter_f (p := fun f : FldD => !decide (f.at_ = r)) (f := FldD.cs) (by omega) (by rw [decide_eq_true (show l[k].at_ = r from h28)]; rfl))) ?_)
     ·skip
      refine AW.skip ?_
      change AW _ _ _ _ _
      refine AW.region ?_
      refine AL.rm ?_
      refine AL.r (rd_arith_add rfl rfl rfl (by first | exact IntWalk.i64_in _ (by omega) | rfl)) ?_
      refine AL.ra ?_
      refine AL.nil ?_
      refine ⟨⟨k + 1, g⟩, ?_, by first | omega | (simp only []; omega), ?_, ?_⟩
      ·show k + 1 ≤ l.length; omega
      ·simp only [anys, upds, offs, List.set_cons_zero, List.set_cons_succ]; repeat (first | exact Wk.nil | refine Wk.same ?_ | refine Wk.any ?_)
      ·simp only [anys, upds, offs, List.set_cons_zero, List.set_cons_succ]; repeat (first | exact Sk.nil _ | refine Sk.same _ ?_ | refine Sk.scr _ (by decide) ?_ | refine Sk.eq _ (by first | exact congrArg (fun xs => TK.mk (g + 1) (.own 47 7 xs)) (take_filter_t (p := fun f : FldD => !decide (f.at_ = r)) (f := FldD.cs) (by omega) (by rw [decide_eq_false (show ¬ l[k].at_ = r from h28)]; rfl)) | exact congrArg (fun xs => TK.mk g (.own 47 7 xs)) (take_filter_f (p := fun f : FldD => !decide (f.at_ = r)) (f := FldD.cs) (by omega) (by rw [decide_eq_true (show l[k].at_ = r from h28)]; rfl))) ?_)
    ·skip
     refine AW.exit ?_
     change AW _ _ _ _ _
     refine AW.seq ?_
     refine AW.region ?_
     refine AL.rm ?_
     refine AL.ra ?_
     refine AL.ra ?_
     refine AL.nil ?_
     change AW _ _ _ _ _
     refine AW.ret ?_
     change ResA _ _ _ _ _
     refine res2 rfl (ResV.tmp rfl) (by first | rfl | exact setA_own rfl) (ResV.tmp rfl) rfl ?_
     (have e : lessW l r = (l.filter fun f => !decide (f.at_ = r), 0) := by (unfold lessW; rw [if_neg (by simp_all), if_neg (by omega)])); rw [e, List.take_of_length_le (by omega)]
end Go.Proofs.Ytdgcbhihmnhnaaa
