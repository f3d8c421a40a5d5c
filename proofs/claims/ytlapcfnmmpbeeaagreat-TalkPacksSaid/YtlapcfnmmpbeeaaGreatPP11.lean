/- Texts of the proof of talkPacks_holds, put together by a program: SchA. -/
import Derived.Test.YtlapcfnmmpbeeaaGreatPP10
set_option linter.unusedSimpArgs false
set_option linter.unusedVariables false
namespace Go.Proofs.YtlapcfnmmpbeeaaGreat
set_option maxRecDepth 100000
open Go.RowKit
theorem right3 {f : FldD} (h1 : placeB f.at_ = true) (h2 : f.kind = 3) (h3 : f.worth = 0) : rightF f = (casesB f.cases && f.cases.contains f.dflt) := by simp [rightF, h1, h2, h3]
theorem cases_end {l : List Bytes} {s : Bytes} (h : ∀ i (hi : i < l.length), (nameB l[i] && !(l.take i).contains l[i]) = true) : (casesB l && l.contains s) = (decide (l.length < 7) && l.contains s) := by
  rcases Nat.eq_zero_or_pos l.length with h0 | h0
  · have : l = [] := List.eq_nil_of_length_eq_zero h0
    subst this
    simp
  · by_cases h6 : l.length ≤ 6
    · rw [casesB_t h0 h6 h, decide_eq_true (by omega)]
    · rw [decide_eq_false (by omega), Bool.false_and]
      unfold casesB
      rw [decide_eq_false h6]
      simp
theorem rright13 (f : FldD) (hl : f.cases.length ≤ 9223372036854775000) : AC Tryz.prog 128 [f.av] (fun x => x = .s (AB (rightF f))) := by
  refine AC.of' 95 1 Tryz.func128 rfl ?_; change AW _ _ _ _ [TK.mk 0 .off]; refine AW.seq (AW.region (AL.op rfl (AOpB.op (op_box 0 rfl rfl rfl rfl rfl ?_)))); refine AL.n ?_; refine AL.ra ?_; refine AL.nil (AW.seq (AW.seq (AW.region (AL.r (qa fo_39_0) ?_)))); refine AL.r (qN ag_36) ?_; refine AL.op rfl (AOpB.op (op_call (rplace_c f.at_) rfl (by kernel_rfl) rfl (none) ?_)); rintro r rfl; refine AL.n ?_; refine AL.r (rd_un rfl rfl (fun _ => rfl)) ?_; refine AL.nil (AW.cd rfl (fun h7 => ?_) (fun h7 => ?_))
  ·refine AW.seq (AW.region (AL.ra ?_)); refine AL.nil (AW.ret (r1t ?_))
   (simp_all [rightF, len0] <;> (first | omega | (intros; omega) | (rw [Bool.eq_iff_iff]; simp; omega)))
  ·refine AW.skip (AW.seq (AW.seq (AW.region (AL.r (qa fo_39_1) ?_)))); refine AL.r (ql ag_3) ?_; refine AL.r qb ?_; refine AL.nil (AW.cd rfl (fun h10 => ?_) (fun h10 => ?_))
   ·refine AW.seq (AW.region (AL.r (qa fo_39_2) ?_)); refine AL.r (ql ag_9) ?_; refine AL.r (rd_seq rfl rfl rfl) ?_; refine AL.rm ?_; refine AL.fk (d := 14) rfl (fun h14 => ?_) (fun h14 => ?_)
    ·refine AL.n ?_; refine AL.ro (qa fo_39_3) ?_; refine AL.ro (ql ag_37) ?_; refine AL.ro (rd_len_sl rfl el_37 rfl) ?_; refine AL.ro qb ?_; refine AL.r qt ?_; refine AL.rm ?_; refine AL.fk (d := 20) rfl (fun h20 => ?_) (fun h20 => ?_)
     ·refine AL.n ?_; refine AL.ro (qa fo_39_4) ?_; refine AL.ro (ql ag_2) ?_; refine AL.ro qb ?_; refine AL.r qt ?_; refine AL.rm ?_; refine AL.fk (d := 25) rfl (fun h25 => ?_) (fun h25 => ?_)
      ·refine AL.n ?_; refine AL.ro (qa fo_39_4) ?_; refine AL.ro (ql ag_2) ?_; refine AL.ro qb ?_; refine AL.r qt ?_; refine AL.ra ?_; refine AL.nil (AW.ret (r1t ?_))
       (simp_all [rightF, len0] <;> (first | omega | (intros; omega) | (rw [Bool.eq_iff_iff]; simp; omega)))
      ·refine AL.n ?_; (iterate 3 refine AL.rf ?_); refine AL.r qf ?_; refine AL.ra ?_; refine AL.nil (AW.ret (r1t ?_))
       (simp_all [rightF, len0] <;> (first | omega | (intros; omega) | (rw [Bool.eq_iff_iff]; simp; omega)))
     ·refine AL.n ?_; (iterate 3 refine AL.rf ?_); refine AL.r qf ?_; refine AL.rm ?_; (iterate 3 refine AL.rf ?_); refine AL.r qf ?_; refine AL.ra ?_; refine AL.nil (AW.ret (r1t ?_))
      (simp_all [rightF, len0] <;> (first | omega | (intros; omega) | (rw [Bool.eq_iff_iff]; simp; omega)))
    ·refine AL.n ?_; (iterate 4 refine AL.rf ?_); (iterate 2 (refine AL.r qf ?_; refine AL.rm ?_; (iterate 3 refine AL.rf ?_))); refine AL.r qf ?_; refine AL.ra ?_; refine AL.nil (AW.ret (r1t ?_))
     (simp_all [rightF, len0] <;> (first | omega | (intros; omega) | (rw [Bool.eq_iff_iff]; simp; omega)))
   ·refine AW.skip (AW.seq (AW.seq (AW.region (AL.r (qa fo_39_4) ?_)))); refine AL.r (ql ag_2) ?_; refine AL.r qb ?_; refine AL.nil (AW.cd rfl (fun h32 => ?_) (fun h32 => ?_))
    ·refine AW.seq (AW.region (AL.ra ?_)); refine AL.nil (AW.ret (r1t ?_))
     (simp_all [rightF, len0] <;> (first | omega | (intros; omega) | (rw [Bool.eq_iff_iff]; simp; omega)))
    ·refine AW.skip (AW.seq (AW.seq (AW.region (AL.r (qa fo_39_1) ?_)))); refine AL.r (ql ag_3) ?_; refine AL.r qb ?_; refine AL.nil (AW.cd rfl (fun h35 => ?_) (fun h35 => ?_))
     ·refine AW.seq (AW.seq (AW.region (AL.ra ?_))); refine AL.nil (AW.block (AW.loopM (ι := Nat) [2, 36, 37, 38, 39, 40, 41, 42, 43, 44, 45, 46, 47, 48, 49, 50, 51, 52, 53, 54, 55, 56, 57, 58, 59, 60, 61] (fun k => [(3, AI (k : Int))]) [] (fun k => []) (fun k => k ≤ f.cases.length ∧ ∀ i (hi : i < f.cases.length), i < k → (nameB f.cases[i] && !(f.cases.take i).contains f.cases[i]) = true) (fun k => f.cases.length - k) 0 (⟨by omega, fun i _ hi => absurd hi (by omega)⟩) wk sk ?_)); rintro k gs hJ; refine AW.nm ?_
      obtain ⟨hk, hok⟩ := hJ
      refine AW.seq (AW.seq (AW.region (AL.rm ?_))); refine AL.r (qa fo_39_3) ?_; refine AL.r (ql ag_37) ?_; refine AL.r (rd_len_sl rfl el_37 rfl) ?_; refine AL.r qb ?_; refine AL.nil (AW.cd rfl (fun h40 => ?_) (fun h40 => ?_))
      ·refine AW.skip (AW.seq (AW.block (AW.seq (AW.draw (by kernel_rfl) ?_)))); refine AD.r 0 rfl (qa fo_39_3) rfl ?_; refine AD.r 1 rfl (ql ag_37) rfl ?_; refine AD.r 2 rfl (rd_move rfl rfl) rfl ?_; refine AD.r 3 rfl (rd_iaddr_sl rfl el_37 rfl rfl rfl (get_mapA (by omega)) rfl) rfl ?_; refine AD.r 4 rfl (rd_load_ep rfl ag_9 rfl rfl) rfl ?_; refine AD.move 5 rfl (by kernel_rfl) rfl (op_call (rname_c _) rfl (by kernel_rfl) rfl (none) ?_); rintro r rfl; refine AD.n ?_; refine AD.r 6 rfl (rd_un rfl rfl (fun _ => rfl)) rfl ?_; refine AD.r 7 rfl (rd_move rfl rfl) rfl ?_; refine AD.fk (d := 50) rfl (fun h50 => ?_) (fun h50 => ?_)
       ·refine AD.n ?_; refine AD.s 8 rfl ⟨_, _, rfl, rfl, rfl⟩ ?_; refine AD.s 9 rfl ⟨_, _, rfl, rfl, rfl⟩ ?_; refine AD.s 10 rfl ⟨_, _, rfl, rfl, rfl⟩ ?_; refine AD.s 11 rfl ⟨_, _, rfl, rfl, rfl⟩ ?_; refine AD.s 12 rfl ⟨_, _, rfl, rfl, rfl⟩ ?_; refine AD.s 13 rfl ⟨_, _, rfl, rfl, rfl⟩ ?_; refine AD.s 14 rfl ⟨_, _, rfl, rfl, rfl⟩ ?_; refine AD.s 15 rfl ⟨_, _, rfl, rfl, rfl⟩ ?_; refine AD.s 16 rfl ⟨_, _, rfl, rfl, rfl⟩ ?_; refine AD.s 17 rfl ⟨_, _, rfl, rfl, rfl⟩ ?_; refine AD.r 18 rfl (rd_pick_t rfl rfl rfl) rfl ?_; refine AD.done (by kernel_rfl) ?_; change AW _ _ _ _ _; refine AW.cond_t rfl (AW.seq (AW.region (AL.ra ?_))); refine AL.nil (AW.ret (r1t ?_)); rw [right3 h7 h35 h32, casesB_f (k := k) (by omega) (by simp_all), Bool.false_and]
       ·refine AD.n ?_; refine AD.r 8 rfl (qa fo_39_3) ⟨_, _, rfl, rfl, rfl⟩ ?_; refine AD.r 9 rfl (ql ag_37) ⟨_, _, rfl, rfl, rfl⟩ ?_; refine AD.r 10 rfl (rd_move rfl rfl) ⟨_, _, rfl, rfl, rfl⟩ ?_; refine AD.r 11 rfl (rd_slice_sl rfl el_37 rfl (by first | exact csS_one | exact byA_one | (intro cs hcs; obtain rfl := List.mem_singleton.1 hcs; rfl) | (intro cs hcs; obtain ⟨_, _, rfl⟩ := List.mem_map.1 hcs; rfl)) rfl ⟨_, _, rfl, rfl⟩ (by omega) (by simp only [csS_len, byA_len, List.length_map]; omega)) ⟨_, _, rfl, rfl, rfl⟩ ?_; refine AD.r 12 rfl (qa fo_39_3) ⟨_, _, rfl, rfl, rfl⟩ ?_; refine AD.r 13 rfl (ql ag_37) ⟨_, _, rfl, rfl, rfl⟩ ?_; refine AD.r 14 rfl (rd_move rfl rfl) ⟨_, _, rfl, rfl, rfl⟩ ?_; refine AD.r 15 rfl (rd_iaddr_sl rfl el_37 rfl rfl rfl (get_mapA (by omega)) rfl) ⟨_, _, rfl, rfl, rfl⟩ ?_
        refine AD.r 16 rfl (rd_load_ep rfl ag_9 rfl rfl) ⟨_, _, rfl, rfl, rfl⟩ ?_; refine AD.move 17 rfl (by kernel_rfl) ⟨_, _, rfl, rfl, rfl⟩ (op_call (has_c (f.cases.take k) _ (by rw [List.length_take]; omega)) rfl (by kernel_rfl) rfl (none) ?_); rintro r rfl; refine AD.n ?_; refine AD.r 18 rfl (rd_pick_f rfl rfl rfl) rfl ?_; refine AD.done (by kernel_rfl) ?_; change AW _ _ _ _ _; refine AW.cd rfl (fun h61 => ?_) (fun h61 => ?_)
        ·refine AW.seq (AW.region (AL.ra ?_)); refine AL.nil (AW.ret (r1t ?_)); rw [right3 h7 h35 h32, casesB_f (k := k) (by omega) (by simp_all), Bool.false_and]
        ·refine AW.skip ?_; change AW _ _ _ _ _; refine AW.region ?_; refine AL.rm ?_; refine AL.r (rd_arith_add rfl rfl rfl (by first | exact IntWalk.i64_in _ (by omega) | rfl)) ?_; refine AL.ra ?_; refine AL.nil ?_; refine ⟨k + 1, ?_, by first | omega | (simp only []; omega), ?_, ?_⟩
         ·exact ⟨by omega, next_cases (by omega) hok (by simp_all)⟩
         ·exact wk
         ·exact sk
      ·refine AW.exit ?_; change AW _ _ _ _ _; refine AW.seq (AW.region (AL.r (qa fo_39_3) ?_)); refine AL.r (ql ag_37) ?_; refine AL.r (rd_len_sl rfl el_37 rfl) ?_; refine AL.r qb ?_; refine AL.rm ?_; refine AL.fk (d := 66) rfl (fun h66 => ?_) (fun h66 => ?_)
       ·refine AL.n ?_; refine AL.ro (qa fo_39_3) ?_; refine AL.ro (ql ag_37) ?_; refine AL.ro (qa fo_39_2) ?_; refine AL.ro (ql ag_9) ?_; refine AL.on rfl rfl rfl (AOpB.op (op_call (has_c f.cases _ hl) rfl (by kernel_rfl) rfl (none) ?_)); rintro r rfl; refine AL.n ?_; refine AL.r qt ?_; refine AL.ra ?_; refine AL.nil (AW.ret (r1t ?_)); rw [right3 h7 h35 h32, cases_end (fun i hi => hok i hi (by omega))]; first | (rw [decide_eq_true (by omega), Bool.true_and]) | (rw [decide_eq_false (by omega), Bool.false_and])
       ·refine AL.n ?_; (iterate 5 refine AL.rf ?_); refine AL.r qf ?_; refine AL.ra ?_; refine AL.nil (AW.ret (r1t ?_)); rw [right3 h7 h35 h32, cases_end (fun i hi => hok i hi (by omega))]; first | (rw [decide_eq_true (by omega), Bool.true_and]) | (rw [decide_eq_false (by omega), Bool.false_and])
     ·refine AW.skip (AW.seq (AW.seq (AW.region (AL.r (qa fo_39_3) ?_)))); refine AL.r (ql ag_37) ?_; refine AL.r (rd_len_sl rfl el_37 rfl) ?_; refine AL.r qb ?_; refine AL.nil (AW.cd rfl (fun h76 => ?_) (fun h76 => ?_))
      ·refine AW.seq (AW.region (AL.ra ?_)); refine AL.nil (AW.ret (r1t ?_))
       (have hne : ¬ f.cases = [] := fun e => by (rw [e] at h76; simp at h76)); simp [rightF, h7, h10, h35, h32, hne]
      ·refine AW.skip (AW.seq (AW.region (AL.r (qa fo_39_1) ?_))); refine AL.r (ql ag_3) ?_; refine AL.r qb ?_; refine AL.rm ?_; refine AL.fk (d := 80) rfl (fun h80 => ?_) (fun h80 => ?_)
       ·refine AL.n ?_; refine AL.ro (qa fo_39_2) ?_; refine AL.ro (ql ag_9) ?_; refine AL.ro (rd_len_str rfl str_9 rfl) ?_; refine AL.ro qb ?_; refine AL.r qt ?_; refine AL.rm ?_; refine AL.fk (d := 86) rfl (fun h86 => ?_) (fun h86 => ?_)
        ·refine AL.n ?_; (iterate 4 refine AL.rf ?_); (iterate 3 refine AL.ru ?_); refine AL.rf ?_; refine AL.r qt ?_; refine AL.ra ?_; refine AL.nil (AW.ret (r1t ?_))
         (simp_all [rightF, len0] <;> (first | omega | (intros; omega) | (rw [Bool.eq_iff_iff]; simp; omega)))
        ·refine AL.n ?_; refine AL.ro (qa fo_39_1) ?_; refine AL.ro (ql ag_3) ?_; refine AL.ro qb ?_; refine AL.ro (rd_move rfl rfl) ?_; refine AL.fk (d := 90) rfl (fun h90 => ?_) (fun h90 => ?_)
         ·refine AL.n ?_; refine AL.ro (qa fo_39_2) ?_; refine AL.ro (ql ag_9) ?_; refine AL.ro (rd_seq rfl rfl rfl) ?_; refine AL.ro (rd_pick_t rfl rfl rfl) ?_; refine AL.r qf ?_; refine AL.ra ?_; refine AL.nil (AW.ret (r1t ?_))
          (simp_all [rightF, len0] <;> (first | omega | (intros; omega) | (rw [Bool.eq_iff_iff]; simp; omega)))
         ·refine AL.n ?_; (iterate 3 refine AL.rf ?_); refine AL.ro (rd_pick_f rfl rfl rfl) ?_; refine AL.r qf ?_; refine AL.ra ?_; refine AL.nil (AW.ret (r1t ?_))
          (simp_all [rightF, len0] <;> (first | omega | (intros; omega) | (rw [Bool.eq_iff_iff]; simp; omega)))
       ·refine AL.n ?_; (iterate 4 refine AL.rf ?_); refine AL.r qf ?_; refine AL.rm ?_; refine AL.ro (qa fo_39_1) ?_; refine AL.ro (ql ag_3) ?_; refine AL.ro qb ?_; refine AL.ro (rd_move rfl rfl) ?_; refine AL.fk (d := 90) rfl (fun h90 => ?_) (fun h90 => ?_)
        ·refine AL.n ?_; refine AL.ro (qa fo_39_2) ?_; refine AL.ro (ql ag_9) ?_; refine AL.ro (rd_seq rfl rfl rfl) ?_; refine AL.ro (rd_pick_t rfl rfl rfl) ?_; refine AL.r qf ?_; refine AL.ra ?_; refine AL.nil (AW.ret (r1t ?_))
         (simp_all [rightF, len0] <;> (first | omega | (intros; omega) | (rw [Bool.eq_iff_iff]; simp; omega)))
        ·refine AL.n ?_; (iterate 3 refine AL.rf ?_); refine AL.ro (rd_pick_f rfl rfl rfl) ?_; refine AL.r qf ?_; refine AL.ra ?_; refine AL.nil (AW.ret (r1t ?_))
         (simp_all [rightF, len0] <;> (first | omega | (intros; omega) | (rw [Bool.eq_iff_iff]; simp; omega)))
end Go.Proofs.YtlapcfnmmpbeeaaGreat
