/- Lenses: tables, on, walked over abstract states. -/
import Derived.Test.YtdgcbhihmnhnaaaLenB
namespace Go.Proofs.Ytdgcbhihmnhnaaa
set_option linter.unusedSimpArgs false
set_option linter.unusedVariables false
set_option maxRecDepth 100000
open Go.RowKit

theorem has_f' {t : List PairD} {k j : Nat} {s : Bytes} (hj : (t.take k).length ≤ j) (h : ∀ i (hi : i < (t.take k).length), i < j → decide ((t.take k)[i].from_ = s) = false) : ((t.take k).map PairD.from_).contains s = false := by
  rw [Bool.eq_false_iff]
  intro hc
  rw [List.contains_iff_mem, List.mem_map] at hc
  obtain ⟨p, hp, e⟩ := hc
  obtain ⟨i, hi, rfl⟩ := List.mem_iff_getElem.1 hp
  have := h i hi (by omega)
  simp only [decide_eq_false_iff_not] at this
  exact this e
theorem has_t' {t : List PairD} {k j : Nat} {s : Bytes} (hj : j < (t.take k).length) (h : (t.take k)[j].from_ = s) : ((t.take k).map PairD.from_).contains s = true := by
  rw [List.contains_iff_mem, List.mem_map]
  exact ⟨_, List.getElem_mem hj, h⟩
theorem rtable_c (t u : List PairD) : AC Try.prog 159 [.sl (t.map PairD.cs), .sl (u.map PairD.cs)] (fun x => x = .s (AB (tabB t u))) := by
  refine AC.of' 52 2 Try.func159 rfl ?_
  change AW _ _ _ _ [TK.mk 0 .off, TK.mk 0 .off]
  refine AW.seq ?_
  refine AW.region ?_
  refine AL.ra ?_
  refine AL.nil ?_
  change AW _ _ _ _ _
  refine AW.seq ?_
  refine AW.seq ?_
  refine AW.region ?_
  refine AL.rm ?_
  refine AL.r (rd_len_sl rfl el_48 rfl) ?_
  refine AL.r (rd_bin rfl rfl rfl (fun _ => rfl)) ?_
  refine AL.rm ?_
  refine AL.fk (d := 14) rfl (fun h14 => ?_) (fun h14 => ?_)
  ·skip
   refine AL.n ?_
   refine AL.rf ?_
   refine AL.rf ?_
   refine AL.rf ?_
   refine AL.r (rd_pick_t rfl rfl rfl) ?_
   refine AL.nil ?_
   change AW _ _ _ _ _
   refine AW.cond_t rfl ?_
   refine AW.seq ?_
   refine AW.region ?_
   refine AL.ra ?_
   refine AL.nil ?_
   change AW _ _ _ _ _
   refine AW.ret ?_
   change ResA _ _ _ _ _
   refine res1 rfl (ResV.tmp rfl) rfl ?_
   rw [tabB_len (by omega)]
  ·skip
   refine AL.n ?_
   refine AL.ro (rd_move rfl rfl) ?_
   refine AL.ro (rd_len_sl rfl el_48 rfl) ?_
   refine AL.ro (rd_bin rfl rfl rfl (fun _ => rfl)) ?_
   refine AL.r (rd_pick_f rfl rfl rfl) ?_
   refine AL.nil ?_
   change AW _ _ _ _ _
   refine AW.cd rfl (fun h18 => ?_) (fun h18 => ?_)
   ·skip
    refine AW.seq ?_
    refine AW.region ?_
    refine AL.ra ?_
    refine AL.nil ?_
    change AW _ _ _ _ _
    refine AW.ret ?_
    change ResA _ _ _ _ _
    refine res1 rfl (ResV.tmp rfl) rfl ?_
    rw [tabB_len (by omega)]
   ·skip
    refine AW.skip ?_
    change AW _ _ _ _ _
    refine AW.seq ?_
    refine AW.seq ?_
    refine AW.region ?_
    refine AL.rm ?_
    refine AL.r (rd_len_sl rfl el_48 rfl) ?_
    refine AL.rm ?_
    refine AL.nil ?_
    change AW _ _ _ _ _
    refine AW.block ?_
    refine AW.loopM (ι := Nat) [4, 5, 6, 8, 9, 10, 22, 23, 24, 25, 26, 27, 28, 29, 30, 31, 32, 33, 34, 35, 36, 37, 38, 39, 40, 41, 42, 43, 44, 45, 46, 47, 48, 49, 50, 51, 52, 53] (fun k => [(21, AI (k : Int))]) [0, 1] (fun k => []) (fun k => k ≤ t.length ∧ ∀ i, i < k → okT t u i = true) (fun k => t.length - k) 0 (⟨by omega, fun i hi => absurd hi (by omega)⟩) (by simp only [anys, upds, offs, List.set_cons_zero, List.set_cons_succ]; repeat (first | exact Wk.nil | refine Wk.same ?_ | refine Wk.any ?_)) (by simp only [anys, upds, offs, List.set_cons_zero, List.set_cons_succ]; repeat (first | exact Sk.nil _ | refine Sk.same _ ?_ | refine Sk.scr _ (by decide) ?_)) ?_
    rintro k gs hJ
    refine AW.norm (by simp only [anys, upds, offs, List.set_cons_zero, List.set_cons_succ]; rfl) (by (try simp only [anys, upds, offs, List.set_cons_zero, List.set_cons_succ]); (try rfl)) ?_
    obtain ⟨hk, hok⟩ := hJ
    refine AW.seq ?_
    refine AW.region ?_
    refine AL.r (rd_bin rfl rfl rfl (fun _ => rfl)) ?_
    refine AL.nil ?_
    change AW _ _ _ _ _
    refine AW.seq ?_
    refine AW.cd rfl (fun h22 => ?_) (fun h22 => ?_)
    ·skip
     refine AW.skip ?_
     change AW _ _ _ _ _
     refine AW.seq ?_
     refine AW.block ?_
     refine AW.seq ?_
     refine AW.region ?_
     refine AL.rm ?_
     refine AL.r (rd_iaddr_sl rfl el_48 rfl rfl rfl (get_mapA (by omega)) rfl) ?_
     refine AL.r (rd_loadN_ep rfl ag_152 rfl (Nat.le_of_ble_eq_true rfl) rfl) ?_
     refine AL.op rfl (AOpB.op (op_alloc 0 rfl ze_152 rfl ?_))
     refine AL.n ?_
     refine AL.ra ?_
     refine AL.op rfl (op_store_ rfl rfl rfl rfl rfl sz_152 ?_)
     refine AL.n ?_
     refine AL.nil ?_
     change AW _ _ _ _ _
     refine AW.seq ?_
     refine AW.seq ?_
     refine AW.region ?_
     refine AL.r (rd_faddr_bx rfl fo_152_0 rfl rfl ⟨_, _, rfl⟩) ?_
     refine AL.r (rd_load_bx rfl ag_9 rfl rfl rfl) ?_
     refine AL.op rfl (AOpB.op (op_call (name_c _) rfl (by kernel_rfl) rfl (none) ?_))
     rintro r rfl
     refine AL.n ?_
     refine AL.r (rd_un rfl rfl (fun _ => rfl)) ?_
     refine AL.nil ?_
     change AW _ _ _ _ _
     refine AW.cd rfl (fun h29 => ?_) (fun h29 => ?_)
     ·skip
      refine AW.seq ?_
      refine AW.region ?_
      refine AL.ra ?_
      refine AL.nil ?_
      change AW _ _ _ _ _
      refine AW.ret ?_
      change ResA _ _ _ _ _
      refine res1 rfl (ResV.tmp rfl) rfl ?_
      rw [tabB_f (k := k) (by omega) (by rw [okT_at (by omega)]; simp_all)]
     ·skip
      refine AW.skip ?_
      change AW _ _ _ _ _
      refine AW.seq ?_
      refine AW.seq ?_
      refine AW.region ?_
      refine AL.rm ?_
      refine AL.rm ?_
      refine AL.r (rd_slice_sl rfl el_48 rfl (by first | exact csS_one | exact byA_one | (intro cs hcs; obtain rfl := List.mem_singleton.1 hcs; rfl) | (intro cs hcs; obtain ⟨_, _, rfl⟩ := List.mem_map.1 hcs; rfl)) rfl ⟨_, _, rfl, rfl⟩ (by omega) (by simp only [csS_len, byA_len, List.length_map]; omega)) ?_
      refine AL.r (rd_len_sl rfl el_48 rfl) ?_
      refine AL.rm ?_
      refine AL.nil ?_
      change AW _ _ _ _ _
      refine AW.block ?_
      refine AW.loopM (ι := Nat) [4, 8, 35, 36, 37, 38, 39, 40, 41, 42, 43] (fun j => [(34, AI (j : Int))]) [1] (fun j => []) (fun j => j ≤ (t.take k).length ∧ ∀ i (hi : i < (t.take k).length), i < j → decide ((t.take k)[i].from_ = (t[k]'(by omega)).from_) = false) (fun j => (t.take k).length - j) 0 (⟨by omega, fun i _ hi => absurd hi (by omega)⟩) (by simp only [anys, upds, offs, List.set_cons_zero, List.set_cons_succ]; repeat (first | exact Wk.nil | refine Wk.same ?_ | refine Wk.any ?_)) (by simp only [anys, upds, offs, List.set_cons_zero, List.set_cons_succ]; repeat (first | exact Sk.nil _ | refine Sk.same _ ?_ | refine Sk.scr _ (by decide) ?_)) ?_
      rintro j gs hJ
      refine AW.norm (by simp only [anys, upds, offs, List.set_cons_zero, List.set_cons_succ]; rfl) (by (try simp only [anys, upds, offs, List.set_cons_zero, List.set_cons_succ]); (try rfl)) ?_
      obtain ⟨hj, hoj⟩ := hJ; (have hq := List.length_take_le k t)
      refine AW.seq ?_
      refine AW.region ?_
      refine AL.r (rd_bin rfl rfl rfl (fun _ => rfl)) ?_
      refine AL.nil ?_
      change AW _ _ _ _ _
      refine AW.seq ?_
      refine AW.cd rfl (fun h35 => ?_) (fun h35 => ?_)
      ·skip
       refine AW.skip ?_
       change AW _ _ _ _ _
       refine AW.seq ?_
       refine AW.block ?_
       refine AW.seq ?_
       refine AW.region ?_
       refine AL.r (rd_iaddr_sl rfl el_48 rfl rfl rfl (get_mapA (by omega)) rfl) ?_
       refine AL.r (rd_loadN_ep rfl ag_152 rfl (Nat.le_of_ble_eq_true rfl) rfl) ?_
       refine AL.op rfl (AOpB.op (op_alloc 1 rfl ze_152 rfl ?_))
       refine AL.n ?_
       refine AL.op rfl (op_store_ rfl rfl rfl rfl rfl sz_152 ?_)
       refine AL.n ?_
       refine AL.nil ?_
       change AW _ _ _ _ _
       refine AW.seq ?_
       refine AW.region ?_
       refine AL.r (rd_faddr_bx rfl fo_152_0 rfl rfl ⟨_, _, rfl⟩) ?_
       refine AL.r (rd_load_bx rfl ag_9 rfl rfl rfl) ?_
       refine AL.r (rd_faddr_bx rfl fo_152_0 rfl rfl ⟨_, _, rfl⟩) ?_
       refine AL.r (rd_load_bx rfl ag_9 rfl rfl rfl) ?_
       refine AL.r (rd_seq rfl rfl rfl) ?_
       refine AL.nil ?_
       change AW _ _ _ _ _
       refine AW.cd rfl (fun h42 => ?_) (fun h42 => ?_)
       ·skip
        refine AW.seq ?_
        refine AW.region ?_
        refine AL.ra ?_
        refine AL.nil ?_
        change AW _ _ _ _ _
        refine AW.ret ?_
        change ResA _ _ _ _ _
        refine res1 rfl (ResV.tmp rfl) rfl ?_
        rw [tabB_f (k := k) (by omega) (by rw [okT_at (by omega), has_t' (by omega) h42]; simp)]
       ·skip
        refine AW.skip ?_
        change AW _ _ _ _ _
        refine AW.region ?_
        refine AL.r (rd_arith_add rfl rfl rfl (by first | exact IntWalk.i64_in _ (by omega) | rfl)) ?_
        refine AL.rm ?_
        refine AL.nil ?_
        refine ⟨j + 1, ?_, by first | omega | (simp only []; omega), ?_, ?_⟩
        ·exact ⟨by omega, all_nextL (p := fun (y : PairD) => decide (y.from_ = (t[k]'(by omega)).from_) = false) (by omega) hoj (decide_eq_false h42)⟩
        ·simp only [anys, upds, offs, List.set_cons_zero, List.set_cons_succ]; repeat (first | exact Wk.nil | refine Wk.same ?_ | refine Wk.any ?_)
        ·simp only [anys, upds, offs, List.set_cons_zero, List.set_cons_succ]; repeat (first | exact Sk.nil _ | refine Sk.same _ ?_ | refine Sk.scr _ (by decide) ?_)
      ·skip
       refine AW.exit ?_
       change AW _ _ _ _ _
       refine AW.seq ?_
       refine AW.region ?_
       refine AL.rm ?_
       refine AL.r (rd_faddr_bx rfl fo_152_1 rfl rfl ⟨_, _, rfl⟩) ?_
       refine AL.r (rd_load_bx rfl ag_9 rfl rfl rfl) ?_
       refine AL.op rfl (AOpB.op (op_call (case_c u (t[k]'(by omega)).to) rfl (by kernel_rfl) rfl (none) ?_))
       rintro r rfl
       refine AL.n ?_
       refine AL.rm ?_
       refine AL.r (rd_extract rfl rfl rfl) ?_
       refine AL.r (rd_extract rfl rfl rfl) ?_
       refine AL.ra ?_
       refine AL.ra ?_
       refine AL.nil ?_
       change AW _ _ _ _ _
       refine AW.seq ?_
       refine AW.region ?_
       refine AL.rm ?_
       refine AL.r (rd_un rfl rfl (fun _ => rfl)) ?_
       refine AL.nil ?_
       change AW _ _ _ _ _
       refine AW.cd rfl (fun h52 => ?_) (fun h52 => ?_)
       ·skip
        refine AW.seq ?_
        refine AW.region ?_
        refine AL.ra ?_
        refine AL.nil ?_
        change AW _ _ _ _ _
        refine AW.ret ?_
        change ResA _ _ _ _ _
        refine res1 rfl (ResV.tmp rfl) rfl ?_
        rw [tabB_f (k := k) (by omega) (by rw [okT_at (by omega)]; rw [caseP_ok] at h52; simp_all)]
       ·skip
        refine AW.skip ?_
        change AW _ _ _ _ _
        refine AW.region ?_
        refine AL.r (rd_arith_add rfl rfl rfl (by first | exact IntWalk.i64_in _ (by omega) | rfl)) ?_
        refine AL.rm ?_
        refine AL.nil ?_
        refine ⟨k + 1, ?_, by first | omega | (simp only []; omega), ?_, ?_⟩
        ·exact ⟨by omega, all_next hok (by rw [okT_at (by omega), has_f' (by omega) hoj]; rw [caseP_ok] at h52; simp_all)⟩
        ·simp only [anys, upds, offs, List.set_cons_zero, List.set_cons_succ]; repeat (first | exact Wk.nil | refine Wk.same ?_ | refine Wk.any ?_)
        ·simp only [anys, upds, offs, List.set_cons_zero, List.set_cons_succ]; repeat (first | exact Sk.nil _ | refine Sk.same _ ?_ | refine Sk.scr _ (by decide) ?_)
    ·skip
     refine AW.exit ?_
     change AW _ _ _ _ _
     refine AW.seq ?_
     refine AW.region ?_
     refine AL.ra ?_
     refine AL.nil ?_
     change AW _ _ _ _ _
     refine AW.ret ?_
     change ResA _ _ _ _ _
     refine res1 rfl (ResV.tmp rfl) rfl ?_
     rw [tabB_t (by omega) (by omega) (fun i hi => hok i (by omega))]
end Go.Proofs.Ytdgcbhihmnhnaaa
