/- Texts of the proof of talkPacks_holds, put together by a program: RefA. -/
import Derived.Test.YtlapcfnmmpbeeaaGreatPP09
set_option linter.unusedSimpArgs false
set_option linter.unusedVariables false
namespace Go.Proofs.YtlapcfnmmpbeeaaGreat
set_option maxRecDepth 100000
open Go.RowKit
theorem rname_c (s : Bytes) : AC Tryz.prog 84 [AS s] (fun r => r = .s (AB (nameB s))) := by
  refine AC.of' 49 0 Tryz.func84 rfl ?_; change AW _ _ _ _ []; refine AW.seq (AW.region (AL.ra ?_)); refine AL.nil (AW.seq (AW.seq (AW.region (AL.rm ?_)))); refine AL.r (rd_len_str rfl str_9 rfl) ?_; refine AL.r qb ?_; refine AL.rm ?_; refine AL.fk (d := 9) rfl (fun h9 => ?_) (fun h9 => ?_)
  ·refine AL.n ?_; (iterate 3 refine AL.rf ?_); refine AL.r qt ?_; refine AL.nil (AW.cond_t rfl (AW.seq (AW.region (AL.ra ?_)))); refine AL.nil (AW.ret (r1t ?_))
   (have : nameB s = false := by (unfold nameB; simp; omega)); simp_all
  ·refine AL.n ?_; refine AL.ro (rd_move rfl rfl) ?_; refine AL.ro (rd_len_str rfl str_9 rfl) ?_; refine AL.ro qb ?_; refine AL.r qf ?_; refine AL.nil (AW.cd rfl (fun h13 => ?_) (fun h13 => ?_))
   ·refine AW.seq (AW.region (AL.ra ?_)); refine AL.nil (AW.ret (r1t ?_))
    (have : nameB s = false := by (unfold nameB; simp; omega)); simp_all
   ·refine AW.skip (AW.seq (AW.seq (AW.region (AL.ra ?_)))); refine AL.nil (AW.block (AW.loopM (ι := Nat) [2, 4, 5, 14, 15, 16, 17, 18, 19, 20, 21, 22, 23, 24, 25, 26, 27, 28, 29, 30, 31, 32, 33, 34, 35, 36, 37, 38, 39, 40, 41, 42, 43, 44, 45, 46, 47, 48, 49] (fun k => [(3, AI (k : Int))]) [] (fun k => []) (fun k => k ≤ s.length ∧ ∀ i, i < k → okN (s.getD i 0) i = true) (fun k => s.length - k) 0 (⟨by omega, fun i hi => absurd hi (by omega)⟩) wk sk ?_)); rintro k gs hJ; refine AW.nm ?_
    obtain ⟨hk, hok⟩ := hJ
    refine AW.seq (AW.seq (AW.region ?_)); (iterate 2 refine AL.rm ?_); refine AL.r (rd_len_str rfl str_9 rfl) ?_; refine AL.r qb ?_; refine AL.nil (AW.cd rfl (fun h17 => ?_) (fun h17 => ?_))
    ·refine AW.skip (AW.seq (AW.block (AW.seq (AW.region ?_)))); (iterate 2 refine AL.rm ?_); refine AL.r (rd_index_str rfl str_9 rfl rfl (rfl) (List.getElem?_eq_getElem (by omega))) ?_; refine AL.r qb ?_; refine AL.rm ?_; refine AL.fk (d := 24) rfl (fun h24 => ?_) (fun h24 => ?_)
     ·refine AL.n ?_; refine AL.ro (rd_move rfl rfl) ?_; refine AL.ro (rd_move rfl rfl) ?_; refine AL.ro (rd_index_str rfl str_9 rfl rfl (rfl) (List.getElem?_eq_getElem (by omega))) ?_; refine AL.ro qb ?_; refine AL.r qt ?_; refine AL.ra ?_; refine AL.nil (AW.seq (AW.region ?_)); (iterate 2 refine AL.rm ?_); refine AL.r (rd_index_str rfl str_9 rfl rfl (rfl) (List.getElem?_eq_getElem (by omega))) ?_; refine AL.r qb ?_; refine AL.rm ?_; refine AL.fk (d := 34) rfl (fun h34 => ?_) (fun h34 => ?_)
      ·refine AL.n ?_; refine AL.ro (rd_move rfl rfl) ?_; refine AL.ro (rd_move rfl rfl) ?_; refine AL.ro (rd_index_str rfl str_9 rfl rfl (rfl) (List.getElem?_eq_getElem (by omega))) ?_; refine AL.ro qb ?_; refine AL.r qt ?_; refine AL.ra ?_; refine AL.nil (AW.seq (AW.region (AL.rm ?_))); refine AL.r (rd_un rfl rfl (fun _ => rfl)) ?_; refine AL.rm ?_; refine AL.fk (d := 42) rfl (fun h42 => ?_) (fun h42 => ?_)
       ·refine AL.n ?_; refine AL.ro (rd_move rfl rfl) ?_; refine AL.ro (rd_un rfl rfl (fun _ => rfl)) ?_; refine AL.ro (rd_move rfl rfl) ?_; refine AL.fk (d := 45) rfl (fun h45 => ?_) (fun h45 => ?_)
        ·refine AL.n ?_; (iterate 2 refine AL.rf ?_); refine AL.ro (rd_pick_t rfl rfl rfl) ?_; refine AL.r qt ?_; refine AL.nil (AW.cond_t rfl (AW.seq (AW.region (AL.ra ?_)))); refine AL.nil (AW.ret (r1t ?_)); rw [nameB_f (k := k) (by omega) (okN_f (by omega))]
        ·refine AL.n ?_; refine AL.ro (rd_move rfl rfl) ?_; refine AL.ro qb ?_; refine AL.ro (rd_pick_f rfl rfl rfl) ?_; refine AL.r qt ?_; refine AL.nil (AW.cd rfl (fun h49 => ?_) (fun h49 => ?_))
         ·refine AW.seq (AW.region (AL.ra ?_)); refine AL.nil (AW.ret (r1t ?_)); rw [nameB_f (k := k) (by omega) (okN_f (by omega))]
         ·refine AW.skip ?_; change AW _ _ _ _ _; refine AW.region ?_; refine AL.rm ?_; refine AL.r (rd_arith_add rfl rfl rfl (by first | exact IntWalk.i64_in _ (by omega) | rfl)) ?_; refine AL.ra ?_; refine AL.nil ?_; refine ⟨k + 1, ?_, by first | omega | (simp only []; omega), ?_, ?_⟩
          ·exact ⟨by omega, okN_next (by omega) hok (okN_t (by omega))⟩
          ·exact wk
          ·exact sk
       ·refine AL.n ?_; (iterate 3 refine AL.rf ?_); (iterate 2 refine AL.ru ?_); refine AL.rf ?_; refine AL.r qf ?_; refine AL.nil ?_; change AW _ _ _ _ _; refine AW.cond_f rfl ?_; refine AW.skip ?_; change AW _ _ _ _ _; refine AW.region ?_; refine AL.rm ?_; refine AL.r (rd_arith_add rfl rfl rfl (by first | exact IntWalk.i64_in _ (by omega) | rfl)) ?_; refine AL.ra ?_; refine AL.nil ?_; refine ⟨k + 1, ?_, by first | omega | (simp only []; omega), ?_, ?_⟩
        ·exact ⟨by omega, okN_next (by omega) hok (okN_t (by omega))⟩
        ·exact wk
        ·exact sk
      ·refine AL.n ?_; (iterate 4 refine AL.rf ?_); refine AL.r qf ?_; refine AL.ra ?_; refine AL.nil (AW.seq (AW.region (AL.rm ?_))); refine AL.r (rd_un rfl rfl (fun _ => rfl)) ?_; refine AL.rm ?_; refine AL.fk (d := 42) rfl (fun h42 => ?_) (fun h42 => ?_)
       ·refine AL.n ?_; refine AL.ro (rd_move rfl rfl) ?_; refine AL.ro (rd_un rfl rfl (fun _ => rfl)) ?_; refine AL.ro (rd_move rfl rfl) ?_; (iterate 2 refine AL.rf ?_); refine AL.ro (rd_pick_t rfl rfl rfl) ?_; refine AL.r qt ?_; refine AL.nil (AW.cond_t rfl (AW.seq (AW.region (AL.ra ?_)))); refine AL.nil (AW.ret (r1t ?_)); rw [nameB_f (k := k) (by omega) (okN_f (by omega))]
       ·refine AL.n ?_; (iterate 3 refine AL.rf ?_); (iterate 2 refine AL.ru ?_); refine AL.rf ?_; refine AL.r qf ?_; refine AL.nil ?_; change AW _ _ _ _ _; refine AW.cond_f rfl ?_; refine AW.skip ?_; change AW _ _ _ _ _; refine AW.region ?_; refine AL.rm ?_; refine AL.r (rd_arith_add rfl rfl rfl (by first | exact IntWalk.i64_in _ (by omega) | rfl)) ?_; refine AL.ra ?_; refine AL.nil ?_; refine ⟨k + 1, ?_, by first | omega | (simp only []; omega), ?_, ?_⟩
        ·exact ⟨by omega, okN_next (by omega) hok (okN_t (by omega))⟩
        ·exact wk
        ·exact sk
     ·refine AL.n ?_; (iterate 4 refine AL.rf ?_); refine AL.r qf ?_; refine AL.ra ?_; refine AL.nil (AW.seq (AW.region ?_)); (iterate 2 refine AL.rm ?_); refine AL.r (rd_index_str rfl str_9 rfl rfl (rfl) (List.getElem?_eq_getElem (by omega))) ?_; refine AL.r qb ?_; refine AL.rm ?_; refine AL.fk (d := 34) rfl (fun h34 => ?_) (fun h34 => ?_)
      ·refine AL.n ?_; refine AL.ro (rd_move rfl rfl) ?_; refine AL.ro (rd_move rfl rfl) ?_; refine AL.ro (rd_index_str rfl str_9 rfl rfl (rfl) (List.getElem?_eq_getElem (by omega))) ?_; refine AL.ro qb ?_; refine AL.r qt ?_; refine AL.ra ?_; refine AL.nil (AW.seq (AW.region (AL.rm ?_))); refine AL.r (rd_un rfl rfl (fun _ => rfl)) ?_; refine AL.rm ?_; refine AL.ro (rd_move rfl rfl) ?_; refine AL.ro (rd_un rfl rfl (fun _ => rfl)) ?_; refine AL.ro (rd_move rfl rfl) ?_; refine AL.fk (d := 45) rfl (fun h45 => ?_) (fun h45 => ?_)
       ·refine AL.n ?_; (iterate 2 refine AL.rf ?_); refine AL.ro (rd_pick_t rfl rfl rfl) ?_; refine AL.r qt ?_; refine AL.nil (AW.cond_t rfl (AW.seq (AW.region (AL.ra ?_)))); refine AL.nil (AW.ret (r1t ?_)); rw [nameB_f (k := k) (by omega) (okN_f (by omega))]
       ·refine AL.n ?_; refine AL.ro (rd_move rfl rfl) ?_; refine AL.ro qb ?_; refine AL.ro (rd_pick_f rfl rfl rfl) ?_; refine AL.r qt ?_; refine AL.nil (AW.cd rfl (fun h49 => ?_) (fun h49 => ?_))
        ·refine AW.seq (AW.region (AL.ra ?_)); refine AL.nil (AW.ret (r1t ?_)); rw [nameB_f (k := k) (by omega) (okN_f (by omega))]
        ·refine AW.skip ?_; change AW _ _ _ _ _; refine AW.region ?_; refine AL.rm ?_; refine AL.r (rd_arith_add rfl rfl rfl (by first | exact IntWalk.i64_in _ (by omega) | rfl)) ?_; refine AL.ra ?_; refine AL.nil ?_; refine ⟨k + 1, ?_, by first | omega | (simp only []; omega), ?_, ?_⟩
         ·exact ⟨by omega, okN_next (by omega) hok (okN_t (by omega))⟩
         ·exact wk
         ·exact sk
      ·refine AL.n ?_; (iterate 4 refine AL.rf ?_); refine AL.r qf ?_; refine AL.ra ?_; refine AL.nil (AW.seq (AW.region (AL.rm ?_))); refine AL.r (rd_un rfl rfl (fun _ => rfl)) ?_; refine AL.rm ?_; refine AL.ro (rd_move rfl rfl) ?_; refine AL.ro (rd_un rfl rfl (fun _ => rfl)) ?_; refine AL.ro (rd_move rfl rfl) ?_; (iterate 2 refine AL.rf ?_); refine AL.ro (rd_pick_t rfl rfl rfl) ?_; refine AL.r qt ?_; refine AL.nil (AW.cond_t rfl (AW.seq (AW.region (AL.ra ?_)))); refine AL.nil (AW.ret (r1t ?_)); rw [nameB_f (k := k) (by omega) (okN_f (by omega))]
    ·refine AW.exit ?_; change AW _ _ _ _ _; refine AW.seq (AW.region (AL.ra ?_)); refine AL.nil (AW.ret (r1t ?_)); rw [nameB_t (by omega) (by omega) (fun i hi => hok i (by omega))]
theorem scope01 (n : Int) : (decide (n ≥ 0) && decide (n ≤ 1)) = (n == 0 || n == 1) := by
  rw [Bool.eq_iff_iff]; simp; omega
theorem placeB_eq (r : RefD) : placeB r = (decide (r.scope ≥ 0) && decide (r.scope ≤ 1) && nameB r.name && (((r.group.length : Int) == 0) || nameB r.group)) := by
  rw [scope01, len0]; rfl
theorem rplace_c (r : RefD) : AC Tryz.prog 87 [r.av] (fun x => x = .s (AB (placeB r))) := by
  rw [placeB_eq]
  refine AC.of' 26 1 Tryz.func87 rfl ?_; change AW _ _ _ _ [TK.mk 0 .off]; refine AW.seq (AW.region (AL.op rfl (AOpB.op (op_box 0 rfl rfl rfl rfl rfl ?_)))); refine AL.n ?_; refine AL.ra ?_; refine AL.nil (AW.seq (AW.region (AL.r (qa fo_36_0) ?_))); refine AL.r (ql ag_3) ?_; refine AL.r qb ?_; refine AL.rm ?_; refine AL.fk (d := 6) rfl (fun h6 => ?_) (fun h6 => ?_)
  ·refine AL.n ?_; refine AL.ro (qa fo_36_0) ?_; refine AL.ro (ql ag_3) ?_; refine AL.ro qb ?_; refine AL.r qt ?_; refine AL.rm ?_; refine AL.fk (d := 11) rfl (fun h11 => ?_) (fun h11 => ?_)
   ·refine AL.n ?_; refine AL.ro (qa fo_36_2) ?_; refine AL.ro (ql ag_9) ?_; refine AL.on rfl rfl rfl (AOpB.op (op_call (rname_c _) rfl (by kernel_rfl) rfl (none) ?_)); rintro r rfl; refine AL.n ?_; refine AL.r qt ?_; refine AL.rm ?_; refine AL.fk (d := 16) rfl (fun h16 => ?_) (fun h16 => ?_)
    ·refine AL.n ?_; refine AL.ro (qa fo_36_1) ?_; refine AL.ro (ql ag_9) ?_; refine AL.ro (rd_len_str rfl str_9 rfl) ?_; refine AL.ro qb ?_; refine AL.ro (rd_move rfl rfl) ?_; refine AL.fk (d := 21) rfl (fun h21 => ?_) (fun h21 => ?_)
     ·refine AL.n ?_; (iterate 3 refine AL.rf ?_); refine AL.ro (rd_pick_t rfl rfl rfl) ?_; refine AL.r qt ?_; refine AL.ra ?_; refine AL.nil (AW.ret (r1t ?_))
      (simp_all <;> (intros; omega))
     ·refine AL.n ?_; refine AL.ro (qa fo_36_1) ?_; refine AL.ro (ql ag_9) ?_; refine AL.on rfl rfl rfl (AOpB.op (op_call (rname_c _) rfl (by kernel_rfl) rfl (none) ?_)); rintro r rfl; refine AL.n ?_; refine AL.ro (rd_pick_f rfl rfl rfl) ?_; refine AL.r qt ?_; refine AL.ra ?_; refine AL.nil (AW.ret (r1t ?_))
      (simp_all <;> (intros; omega))
    ·refine AL.n ?_; (iterate 5 refine AL.rf ?_); (iterate 3 refine AL.ru ?_); refine AL.rf ?_; refine AL.r qf ?_; refine AL.ra ?_; refine AL.nil (AW.ret (r1t ?_))
     (simp_all <;> (intros; omega))
   ·refine AL.n ?_; (iterate 3 refine AL.rf ?_); refine AL.r qf ?_; refine AL.rm ?_; (iterate 5 refine AL.rf ?_); (iterate 3 refine AL.ru ?_); refine AL.rf ?_; refine AL.r qf ?_; refine AL.ra ?_; refine AL.nil (AW.ret (r1t ?_))
    (simp_all <;> (intros; omega))
  ·refine AL.n ?_; (iterate 2 ((iterate 3 refine AL.rf ?_); refine AL.r qf ?_; refine AL.rm ?_)); (iterate 5 refine AL.rf ?_); (iterate 3 refine AL.ru ?_); refine AL.rf ?_; refine AL.r qf ?_; refine AL.ra ?_; refine AL.nil (AW.ret (r1t ?_))
   (simp_all <;> (intros; omega))
theorem has_c (l : List Bytes) (s : Bytes) (hl : l.length ≤ 9223372036854775000) : AC Tryz.prog 155 [.sl (csS l), AS s] (fun x => x = .s (AB (l.contains s))) := by
  refine AC.of' 16 0 Tryz.func155 rfl ?_; change AW _ _ _ _ []; refine AW.seq (AW.region (AL.ra ?_)); refine AL.nil (AW.seq (AW.seq (AW.region (AL.ra ?_)))); refine AL.nil (AW.block (AW.loopM (ι := Nat) [4, 6, 7, 8, 9, 10, 11, 12, 13, 14, 15, 16, 17] (fun k => [(5, AI (k : Int))]) [] (fun k => []) (fun k => k ≤ l.length ∧ ∀ i (hi : i < l.length), i < k → ¬ l[i] = s) (fun k => l.length - k) 0 (⟨by omega, fun i _ hi => absurd hi (by omega)⟩) wk sk ?_)); rintro k gs hJ; refine AW.nm ?_
  obtain ⟨hk, hok⟩ := hJ
  refine AW.seq (AW.seq (AW.region ?_)); (iterate 2 refine AL.rm ?_); refine AL.r (rd_len_sl rfl el_37 rfl) ?_; refine AL.r qb ?_; refine AL.nil (AW.cd rfl (fun h9 => ?_) (fun h9 => ?_))
  ·refine AW.skip (AW.seq (AW.block (AW.seq (AW.region ?_)))); (iterate 2 refine AL.rm ?_); refine AL.r (rd_iaddr_sl rfl el_37 rfl rfl rfl (get_mapA (by omega)) rfl) ?_; refine AL.r (rd_load_ep rfl ag_9 rfl rfl) ?_; refine AL.rm ?_; refine AL.r (rd_seq rfl rfl rfl) ?_; refine AL.nil (AW.cd rfl (fun h17 => ?_) (fun h17 => ?_))
   ·refine AW.seq (AW.region (AL.ra ?_)); refine AL.nil (AW.ret (r1t ?_))
    (have : l.contains s = true := by (rw [List.contains_iff_mem, ← h17]; exact List.getElem_mem _)); rw [this]
   ·refine AW.skip ?_; change AW _ _ _ _ _; refine AW.region ?_; refine AL.rm ?_; refine AL.r (rd_arith_add rfl rfl rfl (by first | exact IntWalk.i64_in _ (by omega) | rfl)) ?_; refine AL.ra ?_; refine AL.nil ?_; refine ⟨k + 1, ?_, by first | omega | (simp only []; omega), ?_, ?_⟩
    ·exact ⟨by omega, all_nextL (p := fun y => ¬ y = s) (by omega) hok h17⟩
    ·exact wk
    ·exact sk
  ·refine AW.exit ?_; change AW _ _ _ _ _; refine AW.seq (AW.region (AL.ra ?_)); refine AL.nil (AW.ret (r1t ?_))
   (have : l.contains s = false := by (rw [Bool.eq_false_iff, ne_eq, List.contains_iff_mem]; intro hm; obtain ⟨i, hi, e⟩ := List.getElem_of_mem hm; exact hok i hi (by omega) e)); rw [this]
theorem rsame5_c (l m : List Bytes) (hl : l.length ≤ 9223372036854775000) : AC Tryz.prog 172 [.sl (csS l), .sl (csS m)] (fun x => x = .s (AB (decide (l = m)))) := by
  refine AC.of' 24 0 Tryz.func172 rfl ?_; change AW _ _ _ _ []; refine AW.seq (AW.region (AL.ra ?_)); refine AL.nil (AW.seq (AW.seq (AW.region (AL.rm ?_)))); refine AL.r (rd_len_sl rfl el_37 rfl) ?_; refine AL.rm ?_; refine AL.r (rd_len_sl rfl el_37 rfl) ?_; refine AL.r qb ?_; refine AL.nil (AW.cd rfl (fun h10 => ?_) (fun h10 => ?_))
  ·refine AW.seq (AW.region (AL.ra ?_)); refine AL.nil (AW.ret (r1t ?_)); rw [decide_eq_false (fun e => by subst e; simp at h10)]
  ·refine AW.skip (AW.seq (AW.seq (AW.region (AL.ra ?_)))); refine AL.nil (AW.block (AW.loopM (ι := Nat) [4, 11, 12, 13, 14, 15, 16, 17, 18, 19, 20, 21, 22, 23, 24, 25] (fun k => [(5, AI (k : Int))]) [] (fun k => []) (fun k => k ≤ l.length ∧ l.take k = m.take k) (fun k => l.length - k) 0 (⟨by omega, rfl⟩) wk sk ?_)); rintro k gs hJ; refine AW.nm ?_
   obtain ⟨hk, hok⟩ := hJ
   refine AW.seq (AW.seq (AW.region ?_)); (iterate 2 refine AL.rm ?_); refine AL.r (rd_len_sl rfl el_37 rfl) ?_; refine AL.r qb ?_; refine AL.nil (AW.cd rfl (fun h14 => ?_) (fun h14 => ?_))
   ·refine AW.skip (AW.seq (AW.block (AW.seq (AW.draw (by kernel_rfl) ?_)))); refine AD.r 0 rfl (rd_move rfl rfl) rfl ?_; refine AD.r 1 rfl (rd_move rfl rfl) rfl ?_; refine AD.r 2 rfl (rd_iaddr_sl rfl el_37 rfl rfl rfl (get_mapA (by omega)) rfl) rfl ?_; refine AD.r 3 rfl (rd_load_ep rfl ag_9 rfl rfl) rfl ?_; refine AD.r 4 rfl (rd_move rfl rfl) rfl ?_; refine AD.r 5 rfl (rd_move rfl rfl) rfl ?_; refine AD.r 6 rfl (rd_iaddr_sl rfl el_37 rfl rfl rfl (get_mapA (by omega)) rfl) rfl ?_; refine AD.r 7 rfl (rd_load_ep rfl ag_9 rfl rfl) rfl ?_; refine AD.r 8 rfl (rd_sne rfl rfl rfl) rfl ?_; refine AD.done (by kernel_rfl) ?_; change AW _ _ _ _ _; refine AW.cd rfl (fun h25 => ?_) (fun h25 => ?_)
    ·refine AW.seq (AW.region (AL.ra ?_)); refine AL.nil (AW.ret (r1t ?_)); rw [decide_eq_false (fun e => by subst e; exact h25 rfl)]
    ·refine AW.skip ?_; change AW _ _ _ _ _; refine AW.region ?_; refine AL.rm ?_; refine AL.r (rd_arith_add rfl rfl rfl (by first | exact IntWalk.i64_in _ (by omega) | rfl)) ?_; refine AL.ra ?_; refine AL.nil ?_; refine ⟨k + 1, ?_, by first | omega | (simp only []; omega), ?_, ?_⟩
     ·exact ⟨by omega, take_eq_next (by omega) (by omega) hok h25⟩
     ·exact wk
     ·exact sk
   ·refine AW.exit ?_; change AW _ _ _ _ _; refine AW.seq (AW.region (AL.ra ?_)); refine AL.nil (AW.ret (r1t ?_)); rw [decide_eq_true (by rw [List.take_of_length_le (by omega), List.take_of_length_le (by omega)] at hok; exact hok)]
theorem rsameT_c (l m : List Bytes) (hl : l.length ≤ 9223372036854775000) : AC Tryz.prog 169 [.sl (csS l), .sl (csS m)] (fun x => x = .s (AB (decide (l = m)))) := by
  refine AC.of' 6 0 Tryz.func169 rfl ?_; change AW _ _ _ _ []; refine AW.seq (AW.region (AL.ra ?_)); refine AL.nil (AW.seq (AW.region ?_)); (iterate 2 refine AL.rm ?_); refine AL.op rfl (AOpB.op (op_call (rsame5_c _ _ hl) rfl (by kernel_rfl) rfl (none) ?_)); rintro r rfl; refine AL.n ?_; refine AL.ra ?_; refine AL.nil (AW.ret (r1t ?_)); rfl
theorem rsame_c (f g : FldD) (hl : f.cases.length ≤ 9223372036854775000) : AC Tryz.prog 156 [f.av, g.av] (fun x => x = .s (AB (decide (f = g)))) := by
  refine AC.of' 36 2 Tryz.func156 rfl ?_; change AW _ _ _ _ [TK.mk 0 .off, TK.mk 0 .off]; refine AW.seq (AW.region (AL.op rfl (AOpB.op (op_box 0 rfl rfl rfl rfl rfl ?_)))); refine AL.n ?_; refine AL.op rfl (AOpB.op (op_box 1 rfl rfl rfl rfl rfl ?_)); refine AL.n ?_; refine AL.ra ?_; refine AL.nil (AW.seq (AW.region ?_)); (iterate 2 (refine AL.r (qa fo_39_0) ?_; refine AL.r (qN ag_36) ?_)); refine AL.r (rd_eq_Ref rfl rfl rfl) ?_; refine AL.rm ?_; refine AL.fk (d := 10) rfl (fun h10 => ?_) (fun h10 => ?_)
  ·refine AL.n ?_; (iterate 2 (refine AL.ro (qa fo_39_1) ?_; refine AL.ro (ql ag_3) ?_)); refine AL.ro qb ?_; refine AL.r qt ?_; refine AL.rm ?_; refine AL.fk (d := 17) rfl (fun h17 => ?_) (fun h17 => ?_)
   ·refine AL.n ?_; (iterate 2 (refine AL.ro (qa fo_39_2) ?_; refine AL.ro (ql ag_9) ?_)); refine AL.ro (rd_seq rfl rfl rfl) ?_; refine AL.r qt ?_; refine AL.rm ?_; refine AL.fk (d := 24) rfl (fun h24 => ?_) (fun h24 => ?_)
    ·refine AL.n ?_; (iterate 2 (refine AL.ro (qa fo_39_4) ?_; refine AL.ro (ql ag_2) ?_)); refine AL.ro qb ?_; refine AL.r qt ?_; refine AL.rm ?_; refine AL.fk (d := 31) rfl (fun h31 => ?_) (fun h31 => ?_)
     ·refine AL.n ?_; (iterate 2 (refine AL.ro (qa fo_39_3) ?_; refine AL.ro (ql ag_37) ?_)); refine AL.on rfl rfl rfl (AOpB.op (op_call (rsameT_c _ _ hl) rfl (by kernel_rfl) rfl (none) ?_)); rintro r rfl; refine AL.n ?_; refine AL.r qt ?_; refine AL.ra ?_; refine AL.nil (AW.ret (r1t ?_))
      (obtain ⟨⟨s1, g1, n1⟩, k1, d1, c1, w1⟩ := f; obtain ⟨⟨s2, g2, n2⟩, k2, d2, c2, w2⟩ := g; simp_all [beq_dec])
     ·refine AL.n ?_; (iterate 5 refine AL.rf ?_); refine AL.r qf ?_; refine AL.ra ?_; refine AL.nil (AW.ret (r1t ?_))
      (obtain ⟨⟨s1, g1, n1⟩, k1, d1, c1, w1⟩ := f; obtain ⟨⟨s2, g2, n2⟩, k2, d2, c2, w2⟩ := g; simp_all [beq_dec])
    ·refine AL.n ?_; (iterate 5 refine AL.rf ?_); refine AL.r qf ?_; refine AL.rm ?_; (iterate 5 refine AL.rf ?_); refine AL.r qf ?_; refine AL.ra ?_; refine AL.nil (AW.ret (r1t ?_))
     (obtain ⟨⟨s1, g1, n1⟩, k1, d1, c1, w1⟩ := f; obtain ⟨⟨s2, g2, n2⟩, k2, d2, c2, w2⟩ := g; simp_all [beq_dec])
   ·refine AL.n ?_; (iterate 2 ((iterate 5 refine AL.rf ?_); refine AL.r qf ?_; refine AL.rm ?_)); (iterate 5 refine AL.rf ?_); refine AL.r qf ?_; refine AL.ra ?_; refine AL.nil (AW.ret (r1t ?_))
    (obtain ⟨⟨s1, g1, n1⟩, k1, d1, c1, w1⟩ := f; obtain ⟨⟨s2, g2, n2⟩, k2, d2, c2, w2⟩ := g; simp_all [beq_dec])
  ·refine AL.n ?_; (iterate 3 ((iterate 5 refine AL.rf ?_); refine AL.r qf ?_; refine AL.rm ?_)); (iterate 5 refine AL.rf ?_); refine AL.r qf ?_; refine AL.ra ?_; refine AL.nil (AW.ret (r1t ?_))
   (obtain ⟨⟨s1, g1, n1⟩, k1, d1, c1, w1⟩ := f; obtain ⟨⟨s2, g2, n2⟩, k2, d2, c2, w2⟩ := g; simp_all [beq_dec])
def heavyF (f : FldD) : Bool := decide (200 < f.at_.group.length) || decide (200 < f.at_.name.length) || decide (200 < f.dflt.length) || decide (20 < f.cases.length) || f.cases.any fun c => decide (200 < c.length)
theorem heavyF_f {f : FldD} (h : heavyF f = false) : f.at_.group.length ≤ 200 ∧ f.at_.name.length ≤ 200 ∧ f.dflt.length ≤ 200 ∧ f.cases.length ≤ 20 ∧ ∀ c ∈ f.cases, c.length ≤ 200 := by
  unfold heavyF at h
  simp only [Bool.or_eq_false_iff, decide_eq_false_iff_not, List.any_eq_false, decide_eq_true_eq] at h
  obtain ⟨⟨⟨⟨h1, h2⟩, h3⟩, h4⟩, h5⟩ := h
  exact ⟨by omega, by omega, by omega, by omega, fun c hc => by have := h5 c hc; omega⟩
theorem any_f {α : Type} {l : List α} {p : α → Bool} (h : ∀ i (hi : i < l.length), p l[i] = false) : l.any p = false := by
  rw [List.any_eq_false]
  intro x hx; obtain ⟨i, hi, rfl⟩ := List.getElem_of_mem hx; rw [h i hi]; simp
theorem any_t {α : Type} {l : List α} {p : α → Bool} {k : Nat} (hk : k < l.length) (h : p l[k] = true) : l.any p = true := List.any_eq_true.2 ⟨_, List.getElem_mem hk, h⟩
theorem rheavy_c (f : FldD) : AC Tryz.prog 121 [f.av] (fun x => x = .s (AB (heavyF f))) := by
  refine AC.of' 41 1 Tryz.func121 rfl ?_; change AW _ _ _ _ [TK.mk 0 .off]; refine AW.seq (AW.region (AL.op rfl (AOpB.op (op_box 0 rfl rfl rfl rfl rfl ?_)))); refine AL.n ?_; refine AL.ra ?_; refine AL.nil (AW.seq (AW.seq (AW.region (AL.r (qa fo_39_0) ?_)))); refine AL.r (qa fo_36_1) ?_; refine AL.r (ql ag_9) ?_; refine AL.r (rd_len_str rfl str_9 rfl) ?_; refine AL.r qb ?_; refine AL.rm ?_; refine AL.fk (d := 9) rfl (fun h9 => ?_) (fun h9 => ?_)
  ·refine AL.n ?_; (iterate 5 refine AL.rf ?_); (iterate 2 (refine AL.r qt ?_; refine AL.rm ?_; (iterate 4 refine AL.rf ?_))); refine AL.r qt ?_; refine AL.nil (AW.cond_t rfl (AW.seq (AW.region (AL.ra ?_)))); refine AL.nil (AW.ret (r1t ?_))
   (have : heavyF f = true := by (unfold heavyF; simp; omega)); rw [this]
  ·refine AL.n ?_; refine AL.ro (qa fo_39_0) ?_; refine AL.ro (qa fo_36_2) ?_; refine AL.ro (ql ag_9) ?_; refine AL.ro (rd_len_str rfl str_9 rfl) ?_; refine AL.ro qb ?_; refine AL.r qf ?_; refine AL.rm ?_; refine AL.fk (d := 16) rfl (fun h16 => ?_) (fun h16 => ?_)
   ·refine AL.n ?_; (iterate 4 refine AL.rf ?_); refine AL.r qt ?_; refine AL.rm ?_; (iterate 4 refine AL.rf ?_); refine AL.r qt ?_; refine AL.nil (AW.cond_t rfl (AW.seq (AW.region (AL.ra ?_)))); refine AL.nil (AW.ret (r1t ?_))
    (have : heavyF f = true := by (unfold heavyF; simp; omega)); rw [this]
   ·refine AL.n ?_; refine AL.ro (qa fo_39_2) ?_; refine AL.ro (ql ag_9) ?_; refine AL.ro (rd_len_str rfl str_9 rfl) ?_; refine AL.ro qb ?_; refine AL.r qf ?_; refine AL.rm ?_; refine AL.fk (d := 22) rfl (fun h22 => ?_) (fun h22 => ?_)
    ·refine AL.n ?_; (iterate 4 refine AL.rf ?_); refine AL.r qt ?_; refine AL.nil (AW.cond_t rfl (AW.seq (AW.region (AL.ra ?_)))); refine AL.nil (AW.ret (r1t ?_))
     (have : heavyF f = true := by (unfold heavyF; simp; omega)); rw [this]
    ·refine AL.n ?_; refine AL.ro (qa fo_39_3) ?_; refine AL.ro (ql ag_37) ?_; refine AL.ro (rd_len_sl rfl el_37 rfl) ?_; refine AL.ro qb ?_; refine AL.r qf ?_; refine AL.nil (AW.cd rfl (fun h27 => ?_) (fun h27 => ?_))
     ·refine AW.seq (AW.region (AL.ra ?_)); refine AL.nil (AW.ret (r1t ?_))
      (have : heavyF f = true := by (unfold heavyF; simp; omega)); rw [this]
     ·refine AW.skip (AW.seq (AW.seq (AW.region (AL.ra ?_)))); refine AL.nil (AW.block (AW.loopM (ι := Nat) [2, 28, 29, 30, 31, 32, 33, 34, 35, 36, 37, 38, 39, 40, 41] (fun k => [(3, AI (k : Int))]) [] (fun k => []) (fun k => k ≤ f.cases.length ∧ ∀ i (hi : i < f.cases.length), i < k → decide (200 < f.cases[i].length) = false) (fun k => f.cases.length - k) 0 (⟨by omega, fun i _ hi => absurd hi (by omega)⟩) wk sk ?_)); rintro k gs hJ; refine AW.nm ?_
      obtain ⟨hk, hok⟩ := hJ
      refine AW.seq (AW.seq (AW.region (AL.rm ?_))); refine AL.r (qa fo_39_3) ?_; refine AL.r (ql ag_37) ?_; refine AL.r (rd_len_sl rfl el_37 rfl) ?_; refine AL.r qb ?_; refine AL.nil (AW.cd rfl (fun h32 => ?_) (fun h32 => ?_))
      ·refine AW.skip (AW.seq (AW.block (AW.seq (AW.region (AL.r (qa fo_39_3) ?_))))); refine AL.r (ql ag_37) ?_; refine AL.rm ?_; refine AL.r (rd_iaddr_sl rfl el_37 rfl rfl rfl (get_mapA (by omega)) rfl) ?_; refine AL.r (rd_load_ep rfl ag_9 rfl rfl) ?_; refine AL.r (rd_len_str rfl str_9 rfl) ?_; refine AL.r qb ?_; refine AL.nil (AW.cd rfl (fun h41 => ?_) (fun h41 => ?_))
       ·refine AW.seq (AW.region (AL.ra ?_)); refine AL.nil (AW.ret (r1t ?_))
        (have : heavyF f = true := by (unfold heavyF; rw [any_t (k := k) (by omega) (by simp; omega)]; simp)); rw [this]
       ·refine AW.skip ?_; change AW _ _ _ _ _; refine AW.region ?_; refine AL.rm ?_; refine AL.r (rd_arith_add rfl rfl rfl (by first | exact IntWalk.i64_in _ (by omega) | rfl)) ?_; refine AL.ra ?_; refine AL.nil ?_; refine ⟨k + 1, ?_, by first | omega | (simp only []; omega), ?_, ?_⟩
        ·exact ⟨by omega, all_nextL (p := fun (y : Bytes) => decide (200 < y.length) = false) (by omega) hok (by simp; omega)⟩
        ·exact wk
        ·exact sk
      ·refine AW.exit ?_; change AW _ _ _ _ _; refine AW.seq (AW.region (AL.ra ?_)); refine AL.nil (AW.ret (r1t ?_))
       (have : heavyF f = false := by (unfold heavyF; rw [any_f (fun i hi => hok i hi (by omega))]; simp; omega)); rw [this]
end Go.Proofs.YtlapcfnmmpbeeaaGreat
