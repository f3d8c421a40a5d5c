/- Texts of the proof of talkRight_holds, put together by a program: LenB. -/
import Derived.Test.YtlapcfnmmpbeeaaGreatPR15
set_option linter.unusedSimpArgs false
set_option linter.unusedVariables false
namespace Go.Proofs.YtlapcfnmmpbeeaaGreat
set_option maxRecDepth 100000
open Go.RowKit
def okT (t u : List PairD) (i : Nat) : Bool := match t[i]? with
  | some p => nameB p.from_ && !((t.take i).map PairD.from_).contains p.from_ && (u.map PairD.from_).contains p.to
  | none => true
def tabB (t u : List PairD) : Bool := decide (1 ≤ t.length) && decide (t.length ≤ 6) && (List.range t.length).all (okT t u)
theorem okT_at {t u : List PairD} {k : Nat} (h : k < t.length) : okT t u k = (nameB t[k].from_ && !((t.take k).map PairD.from_).contains t[k].from_ && (u.map PairD.from_).contains t[k].to) := by simp [okT, h]
theorem tabB_len {t u : List PairD} (h : t.length < 1 ∨ 6 < t.length) : tabB t u = false := by
  unfold tabB
  rcases h with h | h
  · rw [decide_eq_false (by omega)]; rfl
  · rw [decide_eq_false (p := t.length ≤ 6) (by omega), Bool.and_false]; rfl
theorem tabB_t {t u : List PairD} (h1 : ¬ t.length < 1) (h2 : ¬ 6 < t.length) (h : ∀ i, i < t.length → okT t u i = true) : tabB t u = true := by
  unfold tabB
  rw [decide_eq_true (by omega), decide_eq_true (by omega), List.all_eq_true.2 fun i hi => h i (List.mem_range.1 hi)]; rfl
theorem tabB_f {t u : List PairD} {k : Nat} (hk : k < t.length) (h : okT t u k = false) : tabB t u = false := by
  unfold tabB
  have : (List.range t.length).all (okT t u) = false := by
    rw [List.all_eq_false]; exact ⟨k, List.mem_range.2 hk, by rw [h]; decide⟩
  rw [this, Bool.and_false]
theorem caseP_ok (t : List PairD) (s : Bytes) : (caseP t s).2 = (t.map PairD.from_).contains s := by
  unfold caseP
  cases h : t.find? (fun p => decide (p.from_ = s)) with
  | none =>
    have := List.find?_eq_none.1 h
    symm
    rw [Bool.eq_false_iff]
    intro hc; rw [List.contains_iff_mem, List.mem_map] at hc; obtain ⟨p, hp, e⟩ := hc; exact this p hp (by simpa using e)
  | some p =>
    have h1 := List.find?_some h
    have h2 := List.mem_of_find?_eq_some h
    symm
    rw [List.contains_iff_mem, List.mem_map]
    exact ⟨p, h2, by simpa using h1⟩
theorem table_c (t u : List PairD) (hu : u.length ≤ 1000000) : AC Tryz.prog 131 [.sl (t.map PairD.cs), .sl (u.map PairD.cs)] (fun x => x = .s (AB (tabB t u))) := by
  refine AC.of' 48 0 Tryz.func131 rfl ?_; change AW _ _ _ _ []; refine AW.seq (AW.region ?_); refine AL.ra ?_; refine AL.nil ?_; change AW _ _ _ _ _; refine AW.seq ?_; refine AW.seq (AW.region ?_); refine AL.rm ?_; refine AL.r (rd_len_sl rfl el_40 rfl) ?_; refine AL.r (rd_bin rfl rfl rfl (fun _ => rfl)) ?_; refine AL.rm ?_; refine AL.fk (d := 9) rfl (fun h9 => ?_) (fun h9 => ?_)
  ·refine AL.n ?_; (iterate 3 refine AL.rf ?_); refine AL.r (rd_pick_t rfl rfl rfl) ?_; refine AL.nil ?_; change AW _ _ _ _ _; refine AW.cond_t rfl ?_; refine AW.seq (AW.region ?_); refine AL.ra ?_; refine AL.nil ?_; change AW _ _ _ _ _; refine AW.ret ?_; change ResA _ _ _ _ _; refine res1 rfl (ResV.tmp rfl) rfl ?_; rw [tabB_len (by omega)]
  ·refine AL.n ?_; refine AL.ro (rd_move rfl rfl) ?_; refine AL.ro (rd_len_sl rfl el_40 rfl) ?_; refine AL.ro (rd_bin rfl rfl rfl (fun _ => rfl)) ?_; refine AL.r (rd_pick_f rfl rfl rfl) ?_; refine AL.nil ?_; change AW _ _ _ _ _; refine AW.cd rfl (fun h13 => ?_) (fun h13 => ?_)
   ·refine AW.seq (AW.region ?_); refine AL.ra ?_; refine AL.nil ?_; change AW _ _ _ _ _; refine AW.ret ?_; change ResA _ _ _ _ _; refine res1 rfl (ResV.tmp rfl) rfl ?_; rw [tabB_len (by omega)]
   ·refine AW.skip ?_; change AW _ _ _ _ _; refine AW.seq ?_; refine AW.seq (AW.region ?_); refine AL.ra ?_; refine AL.nil ?_; change AW _ _ _ _ _; refine AW.block ?_; refine AW.loopM (ι := Nat) [4, 14, 15, 16, 17, 18, 19, 20, 21, 22, 23, 24, 25, 26, 27, 28, 29, 30, 31, 32, 33, 34, 35, 36, 37, 38, 39, 40, 41, 42, 43, 44, 45, 46, 47, 48, 49] (fun k => [(5, AI (k : Int))]) [] (fun k => []) (fun k => k ≤ t.length ∧ ∀ i, i < k → okT t u i = true) (fun k => t.length - k) 0 (⟨by omega, fun i hi => absurd hi (by omega)⟩) (by simp only [anys, upds, offs, List.set_cons_zero, List.set_cons_succ]; repeat (first | exact Wk.nil | refine Wk.same ?_ | refine Wk.any ?_)) (by simp only [anys, upds, offs, List.set_cons_zero, List.set_cons_succ]; repeat (first | exact Sk.nil _ | refine Sk.same _ ?_ | refine Sk.scr _ (by decide) ?_)) ?_; rintro k gs hJ; refine AW.norm (by simp only [anys, upds, offs, List.set_cons_zero, List.set_cons_succ]; rfl) (by (try simp only [anys, upds, offs, List.set_cons_zero, List.set_cons_succ]); (try rfl)) ?_
    obtain ⟨hk, hok⟩ := hJ
    refine AW.seq ?_; refine AW.seq (AW.region ?_); (iterate 2 refine AL.rm ?_); refine AL.r (rd_len_sl rfl el_40 rfl) ?_; refine AL.r (rd_bin rfl rfl rfl (fun _ => rfl)) ?_; refine AL.nil ?_; change AW _ _ _ _ _; refine AW.cd rfl (fun h17 => ?_) (fun h17 => ?_)
    ·refine AW.skip ?_; change AW _ _ _ _ _; refine AW.seq ?_; refine AW.block ?_; refine AW.seq ?_; refine AW.draw (by kernel_rfl) ?_; refine AD.r 0 rfl (rd_move rfl rfl) rfl ?_; refine AD.r 1 rfl (rd_move rfl rfl) rfl ?_; refine AD.r 2 rfl (rd_iaddr_sl rfl el_40 rfl rfl rfl (get_mapA (by omega)) rfl) rfl ?_; refine AD.r 3 rfl (rd_faddr_ep rfl fo_46_0 rfl) rfl ?_; refine AD.r 4 rfl (rd_load_ep rfl ag_9 rfl rfl) rfl ?_; refine AD.move 5 rfl (by kernel_rfl) rfl (op_call (rname_c _) rfl (by kernel_rfl) rfl (none) ?_); rintro r rfl; refine AD.n ?_; refine AD.r 6 rfl (rd_un rfl rfl (fun _ => rfl)) rfl ?_; refine AD.r 7 rfl (rd_move rfl rfl) rfl ?_; refine AD.fk (d := 27) rfl (fun h27 => ?_) (fun h27 => ?_)
     ·refine AD.n ?_; refine AD.s 8 rfl ⟨_, _, rfl, rfl, rfl⟩ ?_; refine AD.s 9 rfl ⟨_, _, rfl, rfl, rfl⟩ ?_; refine AD.s 10 rfl ⟨_, _, rfl, rfl, rfl⟩ ?_; refine AD.s 11 rfl ⟨_, _, rfl, rfl, rfl⟩ ?_; refine AD.s 12 rfl ⟨_, _, rfl, rfl, rfl⟩ ?_; refine AD.s 13 rfl ⟨_, _, rfl, rfl, rfl⟩ ?_; refine AD.s 14 rfl ⟨_, _, rfl, rfl, rfl⟩ ?_; refine AD.s 15 rfl ⟨_, _, rfl, rfl, rfl⟩ ?_; refine AD.s 16 rfl ⟨_, _, rfl, rfl, rfl⟩ ?_; refine AD.s 17 rfl ⟨_, _, rfl, rfl, rfl⟩ ?_; refine AD.r 18 rfl (rd_pick_t rfl rfl rfl) rfl ?_; refine AD.r 19 rfl (rd_move rfl rfl) rfl ?_; refine AD.s 20 rfl ⟨_, _, rfl, rfl, rfl⟩ ?_; refine AD.s 21 rfl ⟨_, _, rfl, rfl, rfl⟩ ?_; refine AD.s 22 rfl ⟨_, _, rfl, rfl, rfl⟩ ?_; refine AD.s 23 rfl ⟨_, _, rfl, rfl, rfl⟩ ?_; refine AD.s 24 rfl ⟨_, _, rfl, rfl, rfl⟩ ?_; refine AD.s 25 rfl ⟨_, _, rfl, rfl, rfl⟩ ?_; refine AD.s 26 rfl ⟨_, _, rfl, rfl, rfl⟩ ?_; refine AD.s 27 rfl ⟨_, _, rfl, rfl, rfl⟩ ?_
      refine AD.s 28 rfl ⟨_, _, rfl, rfl, rfl⟩ ?_; refine AD.r 29 rfl (rd_pick_t rfl rfl rfl) rfl ?_; refine AD.done (by kernel_rfl) ?_; change AW _ _ _ _ _; refine AW.cond_t rfl ?_; refine AW.seq (AW.region ?_); refine AL.ra ?_; refine AL.nil ?_; change AW _ _ _ _ _; refine AW.ret ?_; change ResA _ _ _ _ _; refine res1 rfl (ResV.tmp rfl) rfl ?_; rw [tabB_f (k := k) (by omega) (by rw [okT_at (by omega)]; simp_all)]
     ·refine AD.n ?_; refine AD.r 8 rfl (rd_move rfl rfl) ⟨_, _, rfl, rfl, rfl⟩ ?_; refine AD.r 9 rfl (rd_move rfl rfl) ⟨_, _, rfl, rfl, rfl⟩ ?_; refine AD.r 10 rfl (rd_slice_sl rfl el_40 rfl (by first | exact csS_one | exact byA_one | (intro cs hcs; obtain rfl := List.mem_singleton.1 hcs; rfl) | (intro cs hcs; obtain ⟨_, _, rfl⟩ := List.mem_map.1 hcs; rfl)) rfl ⟨_, _, rfl, rfl⟩ (by omega) (by simp only [csS_len, byA_len, List.length_map]; omega)) ⟨_, _, rfl, rfl, rfl⟩ ?_; refine AD.r 12 rfl (rd_move rfl rfl) ⟨_, _, rfl, rfl, rfl⟩ ?_; refine AD.r 13 rfl (rd_move rfl rfl) ⟨_, _, rfl, rfl, rfl⟩ ?_; refine AD.r 14 rfl (rd_iaddr_sl rfl el_40 rfl rfl rfl (get_mapA (by omega)) rfl) ⟨_, _, rfl, rfl, rfl⟩ ?_; refine AD.r 15 rfl (rd_faddr_ep rfl fo_46_0 rfl) ⟨_, _, rfl, rfl, rfl⟩ ?_; refine AD.r 16 rfl (rd_load_ep rfl ag_9 rfl rfl) ⟨_, _, rfl, rfl, rfl⟩ ?_; refine AD.move 11 rfl (by kernel_rfl) ⟨_, _, rfl, rfl, rfl⟩ (op_call (froms_c (t.take k) (by rw [List.length_take]; omega)) rfl (by kernel_rfl) rfl (none) ?_)
      rintro r rfl; refine AD.n ?_; refine AD.move 17 rfl (by kernel_rfl) ⟨_, _, rfl, rfl, rfl⟩ (op_call (has_c _ _ (by simp; omega)) rfl (by kernel_rfl) rfl (none) ?_); rintro r rfl; refine AD.n ?_; refine AD.r 18 rfl (rd_pick_f rfl rfl rfl) rfl ?_; refine AD.r 19 rfl (rd_move rfl rfl) rfl ?_; refine AD.fk (d := 39) rfl (fun h39 => ?_) (fun h39 => ?_)
      ·refine AD.n ?_; refine AD.s 20 rfl ⟨_, _, rfl, rfl, rfl⟩ ?_; refine AD.s 21 rfl ⟨_, _, rfl, rfl, rfl⟩ ?_; refine AD.s 22 rfl ⟨_, _, rfl, rfl, rfl⟩ ?_; refine AD.s 23 rfl ⟨_, _, rfl, rfl, rfl⟩ ?_; refine AD.s 24 rfl ⟨_, _, rfl, rfl, rfl⟩ ?_; refine AD.s 25 rfl ⟨_, _, rfl, rfl, rfl⟩ ?_; refine AD.s 26 rfl ⟨_, _, rfl, rfl, rfl⟩ ?_; refine AD.s 27 rfl ⟨_, _, rfl, rfl, rfl⟩ ?_; refine AD.s 28 rfl ⟨_, _, rfl, rfl, rfl⟩ ?_; refine AD.r 29 rfl (rd_pick_t rfl rfl rfl) rfl ?_; refine AD.done (by kernel_rfl) ?_; change AW _ _ _ _ _; refine AW.cond_t rfl ?_; refine AW.seq (AW.region ?_); refine AL.ra ?_; refine AL.nil ?_; change AW _ _ _ _ _; refine AW.ret ?_; change ResA _ _ _ _ _; refine res1 rfl (ResV.tmp rfl) rfl ?_; rw [tabB_f (k := k) (by omega) (by rw [okT_at (by omega)]; simp_all)]
      ·refine AD.n ?_; refine AD.r 20 rfl (rd_move rfl rfl) ⟨_, _, rfl, rfl, rfl⟩ ?_; refine AD.r 22 rfl (rd_move rfl rfl) ⟨_, _, rfl, rfl, rfl⟩ ?_; refine AD.r 23 rfl (rd_move rfl rfl) ⟨_, _, rfl, rfl, rfl⟩ ?_; refine AD.r 24 rfl (rd_iaddr_sl rfl el_40 rfl rfl rfl (get_mapA (by omega)) rfl) ⟨_, _, rfl, rfl, rfl⟩ ?_; refine AD.r 25 rfl (rd_faddr_ep rfl fo_46_1 rfl) ⟨_, _, rfl, rfl, rfl⟩ ?_; refine AD.r 26 rfl (rd_load_ep rfl ag_9 rfl rfl) ⟨_, _, rfl, rfl, rfl⟩ ?_; refine AD.move 21 rfl (by kernel_rfl) ⟨_, _, rfl, rfl, rfl⟩ (op_call (froms_c u hu) rfl (by kernel_rfl) rfl (none) ?_); rintro r rfl; refine AD.n ?_; refine AD.move 27 rfl (by kernel_rfl) ⟨_, _, rfl, rfl, rfl⟩ (op_call (has_c _ _ (by simp; omega)) rfl (by kernel_rfl) rfl (none) ?_); rintro r rfl; refine AD.n ?_; refine AD.r 28 rfl (rd_un rfl rfl (fun _ => rfl)) ⟨_, _, rfl, rfl, rfl⟩ ?_; refine AD.r 29 rfl (rd_pick_f rfl rfl rfl) rfl ?_
       refine AD.done (by kernel_rfl) ?_; change AW _ _ _ _ _; refine AW.cd rfl (fun h49 => ?_) (fun h49 => ?_)
       ·refine AW.seq (AW.region ?_); refine AL.ra ?_; refine AL.nil ?_; change AW _ _ _ _ _; refine AW.ret ?_; change ResA _ _ _ _ _; refine res1 rfl (ResV.tmp rfl) rfl ?_; rw [tabB_f (k := k) (by omega) (by rw [okT_at (by omega)]; simp_all)]
       ·refine AW.skip ?_; change AW _ _ _ _ _; refine AW.region ?_; refine AL.rm ?_; refine AL.r (rd_arith_add rfl rfl rfl (by first | exact IntWalk.i64_in _ (by omega) | rfl)) ?_; refine AL.ra ?_; refine AL.nil ?_; refine ⟨k + 1, ?_, by first | omega | (simp only []; omega), ?_, ?_⟩
        ·exact ⟨by omega, all_next hok (by rw [okT_at (by omega)]; simp_all)⟩
        ·simp only [anys, upds, offs, List.set_cons_zero, List.set_cons_succ]; repeat (first | exact Wk.nil | refine Wk.same ?_ | refine Wk.any ?_)
        ·simp only [anys, upds, offs, List.set_cons_zero, List.set_cons_succ]; repeat (first | exact Sk.nil _ | refine Sk.same _ ?_ | refine Sk.scr _ (by decide) ?_)
    ·refine AW.exit ?_; change AW _ _ _ _ _; refine AW.seq (AW.region ?_); refine AL.ra ?_; refine AL.nil ?_; change AW _ _ _ _ _; refine AW.ret ?_; change ResA _ _ _ _ _; refine res1 rfl (ResV.tmp rfl) rfl ?_; rw [tabB_t (by omega) (by omega) (fun i hi => hok i (by omega))]
end Go.Proofs.YtlapcfnmmpbeeaaGreat
