/- Schemas, walked over abstract states. Conditions: lists of no more than a million fields where they are copied. -/
import Derived.Test.YtpkjlmaphhileaaDoorRefA
namespace Go.Proofs.YtpkjlmaphhileaaDoor
set_option linter.unusedSimpArgs false
set_option linter.unusedVariables false
set_option maxRecDepth 100000
open Go.RowKit

/-- Is the field i right, and does it stand behind the one ahead of it? -/
def okS (l : List FldD) (i : Nat) : Bool := match l[i]? with
  | none => true
  | some f => rightF f && (match i with | 0 => true | j + 1 => match l[j]? with | none => true | some g => lessR g.at_ f.at_)
def rightS (l : List FldD) : Bool := decide (l.length ≤ 16) && (List.range l.length).all (okS l)
theorem okS_0 {l : List FldD} (h : 0 < l.length) : okS l 0 = rightF l[0] := by simp [okS, h]
theorem okS_s {l : List FldD} {k : Nat} (h : k < l.length) (h0 : 0 < k) : okS l k = (rightF l[k] && lessR (l[k - 1]'(by omega)).at_ l[k].at_) := by
  obtain ⟨j, rfl⟩ : ∃ j, k = j + 1 := ⟨k - 1, by omega⟩
  have hj : j < l.length := by omega
  simp [okS, h, hj]
theorem okS_rf {l : List FldD} {k : Nat} (h : k < l.length) (hr : rightF l[k] = false) : okS l k = false := by
  unfold okS
  rw [List.getElem?_eq_getElem h]
  simp [hr]
theorem rightS_t {l : List FldD} (h1 : l.length ≤ 16) (h : ∀ i, i < l.length → okS l i = true) : rightS l = true := by
  unfold rightS
  simp only [h1, decide_true, Bool.true_and, List.all_eq_true, List.mem_range]
  exact h
theorem rightS_f {l : List FldD} {k : Nat} (hk : k < l.length) (h : okS l k = false) : rightS l = false := by
  unfold rightS
  have : (List.range l.length).all (okS l) = false := by
    rw [List.all_eq_false]
    exact ⟨k, List.mem_range.2 hk, by rw [h]; simp⟩
  rw [this, Bool.and_false]
theorem rightS_long {l : List FldD} (h : 16 < l.length) : rightS l = false := by unfold rightS; rw [decide_eq_false (by omega), Bool.false_and]

theorem right3 {f : FldD} (h1 : placeB f.at_ = true) (h2 : f.kind = 3) (h3 : f.worth = 0) : rightF f = (casesB f.cases && f.cases.contains f.dflt) := by simp [rightF, h1, h2, h3]
theorem cases_end {l : List Bytes} {s : Bytes} (h : ∀ i (hi : i < l.length), (nameB l[i] && !(l.take i).contains l[i]) = true) : (casesB l && l.contains s) = (decide (l.length < 7) && l.contains s) := by
  rcases Nat.eq_zero_or_pos l.length with h0 | h0
  · have : l = [] := List.eq_nil_of_length_eq_zero h0
    subst this
    simp
  · by_cases h6 : l.length ≤ 6
    · rw [casesB_t h0 h6 h, decide_eq_true (by omega)]
    · rw [decide_eq_false (by omega), Bool.false_and]
      unfold casesB
      rw [decide_eq_false h6]
      simp
theorem rright13 (f : FldD) (hl : f.cases.length ≤ 9223372036854775000) : AC Tryd.prog 18 [f.av] (fun x => x = .s (AB (rightF f))) := by
  refine AC.of' 95 1 Tryd.func18 rfl ?_
  change AW _ _ _ _ [TK.mk 0 .off]
  refine AW.seq ?_
  refine AW.region ?_
  refine AL.op rfl (AOpB.op (op_box 0 rfl rfl rfl rfl rfl ?_))
  refine AL.n ?_
  refine AL.ra ?_
  refine AL.nil ?_
  change AW _ _ _ _ _
  refine AW.seq ?_
  refine AW.seq ?_
  refine AW.region ?_
  refine AL.r (rd_faddr_bx rfl fo_37_0 rfl rfl ⟨_, _, rfl⟩) ?_
  refine AL.r (rd_loadN_bx rfl ag_23 rfl rfl (Nat.le_of_ble_eq_true rfl) rfl) ?_
  refine AL.op rfl (AOpB.op (op_call (rplace_c f.at_) rfl (by kernel_rfl) rfl (none) ?_))
  rintro r rfl
  refine AL.n ?_
  refine AL.r (rd_un rfl rfl (fun _ => rfl)) ?_
  refine AL.nil ?_
  change AW _ _ _ _ _
  refine AW.cd rfl (fun h7 => ?_) (fun h7 => ?_)
  ·skip
   refine AW.seq ?_
   refine AW.region ?_
   refine AL.ra ?_
   refine AL.nil ?_
   change AW _ _ _ _ _
   refine AW.ret ?_
   change ResA _ _ _ _ _
   refine res1 rfl (ResV.tmp rfl) rfl ?_
   (simp_all [rightF, len0] <;> (first | omega | (intros; omega) | (rw [Bool.eq_iff_iff]; simp; omega)))
  ·skip
   refine AW.skip ?_
   change AW _ _ _ _ _
   refine AW.seq ?_
   refine AW.seq ?_
   refine AW.region ?_
   refine AL.r (rd_faddr_bx rfl fo_37_1 rfl rfl ⟨_, _, rfl⟩) ?_
   refine AL.r (rd_load_bx rfl ag_3 rfl rfl rfl) ?_
   refine AL.r (rd_bin rfl rfl rfl (fun _ => rfl)) ?_
   refine AL.nil ?_
   change AW _ _ _ _ _
   refine AW.cd rfl (fun h10 => ?_) (fun h10 => ?_)
   ·skip
    refine AW.seq ?_
    refine AW.region ?_
    refine AL.r (rd_faddr_bx rfl fo_37_2 rfl rfl ⟨_, _, rfl⟩) ?_
    refine AL.r (rd_load_bx rfl ag_9 rfl rfl rfl) ?_
    refine AL.r (rd_seq rfl rfl rfl) ?_
    refine AL.rm ?_
    refine AL.fk (d := 14) rfl (fun h14 => ?_) (fun h14 => ?_)
    ·skip
     refine AL.n ?_
     refine AL.ro (rd_faddr_bx rfl fo_37_3 rfl rfl ⟨_, _, rfl⟩) ?_
     refine AL.ro (rd_load_bx rfl ag_35 rfl rfl rfl) ?_
     refine AL.ro (rd_len_sl rfl el_35 rfl) ?_
     refine AL.ro (rd_bin rfl rfl rfl (fun _ => rfl)) ?_
     refine AL.r (rd_pick_t rfl rfl rfl) ?_
     refine AL.rm ?_
     refine AL.fk (d := 20) rfl (fun h20 => ?_) (fun h20 => ?_)
     ·skip
      refine AL.n ?_
      refine AL.ro (rd_faddr_bx rfl fo_37_4 rfl rfl ⟨_, _, rfl⟩) ?_
      refine AL.ro (rd_load_bx rfl ag_2 rfl rfl rfl) ?_
      refine AL.ro (rd_bin rfl rfl rfl (fun _ => rfl)) ?_
      refine AL.r (rd_pick_t rfl rfl rfl) ?_
      refine AL.rm ?_
      refine AL.fk (d := 25) rfl (fun h25 => ?_) (fun h25 => ?_)
      ·skip
       refine AL.n ?_
       refine AL.ro (rd_faddr_bx rfl fo_37_4 rfl rfl ⟨_, _, rfl⟩) ?_
       refine AL.ro (rd_load_bx rfl ag_2 rfl rfl rfl) ?_
       refine AL.ro (rd_bin rfl rfl rfl (fun _ => rfl)) ?_
       refine AL.r (rd_pick_t rfl rfl rfl) ?_
       refine AL.ra ?_
       refine AL.nil ?_
       change AW _ _ _ _ _
       refine AW.ret ?_
       change ResA _ _ _ _ _
       refine res1 rfl (ResV.tmp rfl) rfl ?_
       (simp_all [rightF, len0] <;> (first | omega | (intros; omega) | (rw [Bool.eq_iff_iff]; simp; omega)))
      ·skip
       refine AL.n ?_
       refine AL.rf ?_
       refine AL.rf ?_
       refine AL.rf ?_
       refine AL.r (rd_pick_f rfl rfl rfl) ?_
       refine AL.ra ?_
       refine AL.nil ?_
       change AW _ _ _ _ _
       refine AW.ret ?_
       change ResA _ _ _ _ _
       refine res1 rfl (ResV.tmp rfl) rfl ?_
       (simp_all [rightF, len0] <;> (first | omega | (intros; omega) | (rw [Bool.eq_iff_iff]; simp; omega)))
     ·skip
      refine AL.n ?_
      refine AL.rf ?_
      refine AL.rf ?_
      refine AL.rf ?_
      refine AL.r (rd_pick_f rfl rfl rfl) ?_
      refine AL.rm ?_
      refine AL.rf ?_
      refine AL.rf ?_
      refine AL.rf ?_
      refine AL.r (rd_pick_f rfl rfl rfl) ?_
      refine AL.ra ?_
      refine AL.nil ?_
      change AW _ _ _ _ _
      refine AW.ret ?_
      change ResA _ _ _ _ _
      refine res1 rfl (ResV.tmp rfl) rfl ?_
      (simp_all [rightF, len0] <;> (first | omega | (intros; omega) | (rw [Bool.eq_iff_iff]; simp; omega)))
    ·skip
     refine AL.n ?_
     refine AL.rf ?_
     refine AL.rf ?_
     refine AL.rf ?_
     refine AL.rf ?_
     refine AL.r (rd_pick_f rfl rfl rfl) ?_
     refine AL.rm ?_
     refine AL.rf ?_
     refine AL.rf ?_
     refine AL.rf ?_
     refine AL.r (rd_pick_f rfl rfl rfl) ?_
     refine AL.rm ?_
     refine AL.rf ?_
     refine AL.rf ?_
     refine AL.rf ?_
     refine AL.r (rd_pick_f rfl rfl rfl) ?_
     refine AL.ra ?_
     refine AL.nil ?_
     change AW _ _ _ _ _
     refine AW.ret ?_
     change ResA _ _ _ _ _
     refine res1 rfl (ResV.tmp rfl) rfl ?_
     (simp_all [rightF, len0] <;> (first | omega | (intros; omega) | (rw [Bool.eq_iff_iff]; simp; omega)))
   ·skip
    refine AW.skip ?_
    change AW _ _ _ _ _
    refine AW.seq ?_
    refine AW.seq ?_
    refine AW.region ?_
    refine AL.r (rd_faddr_bx rfl fo_37_4 rfl rfl ⟨_, _, rfl⟩) ?_
    refine AL.r (rd_load_bx rfl ag_2 rfl rfl rfl) ?_
    refine AL.r (rd_bin rfl rfl rfl (fun _ => rfl)) ?_
    refine AL.nil ?_
    change AW _ _ _ _ _
    refine AW.cd rfl (fun h32 => ?_) (fun h32 => ?_)
    ·skip
     refine AW.seq ?_
     refine AW.region ?_
     refine AL.ra ?_
     refine AL.nil ?_
     change AW _ _ _ _ _
     refine AW.ret ?_
     change ResA _ _ _ _ _
     refine res1 rfl (ResV.tmp rfl) rfl ?_
     (simp_all [rightF, len0] <;> (first | omega | (intros; omega) | (rw [Bool.eq_iff_iff]; simp; omega)))
    ·skip
     refine AW.skip ?_
     change AW _ _ _ _ _
     refine AW.seq ?_
     refine AW.seq ?_
     refine AW.region ?_
     refine AL.r (rd_faddr_bx rfl fo_37_1 rfl rfl ⟨_, _, rfl⟩) ?_
     refine AL.r (rd_load_bx rfl ag_3 rfl rfl rfl) ?_
     refine AL.r (rd_bin rfl rfl rfl (fun _ => rfl)) ?_
     refine AL.nil ?_
     change AW _ _ _ _ _
     refine AW.cd rfl (fun h35 => ?_) (fun h35 => ?_)
     ·skip
      refine AW.seq ?_
      refine AW.seq ?_
      refine AW.region ?_
      refine AL.ra ?_
      refine AL.nil ?_
      change AW _ _ _ _ _
      refine AW.block ?_
      refine AW.loopM (ι := Nat) [2, 36, 37, 38, 39, 40, 41, 42, 43, 44, 45, 46, 47, 48, 49, 50, 51, 52, 53, 54, 55, 56, 57, 58, 59, 60, 61] (fun k => [(3, AI (k : Int))]) [] (fun k => []) (fun k => k ≤ f.cases.length ∧ ∀ i (hi : i < f.cases.length), i < k → (nameB f.cases[i] && !(f.cases.take i).contains f.cases[i]) = true) (fun k => f.cases.length - k) 0 (⟨by omega, fun i _ hi => absurd hi (by omega)⟩) (by simp only [anys, upds, offs, List.set_cons_zero, List.set_cons_succ]; repeat (first | exact Wk.nil | refine Wk.same ?_ | refine Wk.any ?_)) (by simp only [anys, upds, offs, List.set_cons_zero, List.set_cons_succ]; repeat (first | exact Sk.nil _ | refine Sk.same _ ?_ | refine Sk.scr _ (by decide) ?_)) ?_
      rintro k gs hJ
      refine AW.norm (by simp only [anys, upds, offs, List.set_cons_zero, List.set_cons_succ]; rfl) (by (try simp only [anys, upds, offs, List.set_cons_zero, List.set_cons_succ]); (try rfl)) ?_
      obtain ⟨hk, hok⟩ := hJ
      refine AW.seq ?_
      refine AW.seq ?_
      refine AW.region ?_
      refine AL.rm ?_
      refine AL.r (rd_faddr_bx rfl fo_37_3 rfl rfl ⟨_, _, rfl⟩) ?_
      refine AL.r (rd_load_bx rfl ag_35 rfl rfl rfl) ?_
      refine AL.r (rd_len_sl rfl el_35 rfl) ?_
      refine AL.r (rd_bin rfl rfl rfl (fun _ => rfl)) ?_
      refine AL.nil ?_
      change AW _ _ _ _ _
      refine AW.cd rfl (fun h40 => ?_) (fun h40 => ?_)
      ·skip
       refine AW.skip ?_
       change AW _ _ _ _ _
       refine AW.seq ?_
       refine AW.block ?_
       refine AW.seq ?_
       refine AW.draw (by kernel_rfl) ?_
       refine AD.r 0 rfl (rd_faddr_bx rfl fo_37_3 rfl rfl ⟨_, _, rfl⟩) rfl ?_
       refine AD.r 1 rfl (rd_load_bx rfl ag_35 rfl rfl rfl) rfl ?_
       refine AD.r 2 rfl (rd_move rfl rfl) rfl ?_
       refine AD.r 3 rfl (rd_iaddr_sl rfl el_35 rfl rfl rfl (get_mapA (by omega)) rfl) rfl ?_
       refine AD.r 4 rfl (rd_load_ep rfl ag_9 rfl rfl) rfl ?_
       refine AD.move 5 rfl (by kernel_rfl) rfl (op_call (rname_c _) rfl (by kernel_rfl) rfl (none) ?_)
       rintro r rfl
       refine AD.n ?_
       refine AD.r 6 rfl (rd_un rfl rfl (fun _ => rfl)) rfl ?_
       refine AD.r 7 rfl (rd_move rfl rfl) rfl ?_
       refine AD.fk (d := 50) rfl (fun h50 => ?_) (fun h50 => ?_)
       ·skip
        refine AD.n ?_
        refine AD.s 8 rfl ⟨_, _, rfl, rfl, rfl⟩ ?_
        refine AD.s 9 rfl ⟨_, _, rfl, rfl, rfl⟩ ?_
        refine AD.s 10 rfl ⟨_, _, rfl, rfl, rfl⟩ ?_
        refine AD.s 11 rfl ⟨_, _, rfl, rfl, rfl⟩ ?_
        refine AD.s 12 rfl ⟨_, _, rfl, rfl, rfl⟩ ?_
        refine AD.s 13 rfl ⟨_, _, rfl, rfl, rfl⟩ ?_
        refine AD.s 14 rfl ⟨_, _, rfl, rfl, rfl⟩ ?_
        refine AD.s 15 rfl ⟨_, _, rfl, rfl, rfl⟩ ?_
        refine AD.s 16 rfl ⟨_, _, rfl, rfl, rfl⟩ ?_
        refine AD.s 17 rfl ⟨_, _, rfl, rfl, rfl⟩ ?_
        refine AD.r 18 rfl (rd_pick_t rfl rfl rfl) rfl ?_
        refine AD.done (by kernel_rfl) ?_
        change AW _ _ _ _ _
        refine AW.cond_t rfl ?_
        refine AW.seq ?_
        refine AW.region ?_
        refine AL.ra ?_
        refine AL.nil ?_
        change AW _ _ _ _ _
        refine AW.ret ?_
        change ResA _ _ _ _ _
        refine res1 rfl (ResV.tmp rfl) rfl ?_
        rw [right3 h7 h35 h32, casesB_f (k := k) (by omega) (by simp_all), Bool.false_and]
       ·skip
        refine AD.n ?_
        refine AD.r 8 rfl (rd_faddr_bx rfl fo_37_3 rfl rfl ⟨_, _, rfl⟩) ⟨_, _, rfl, rfl, rfl⟩ ?_
        refine AD.r 9 rfl (rd_load_bx rfl ag_35 rfl rfl rfl) ⟨_, _, rfl, rfl, rfl⟩ ?_
        refine AD.r 10 rfl (rd_move rfl rfl) ⟨_, _, rfl, rfl, rfl⟩ ?_
        refine AD.r 11 rfl (rd_slice_sl rfl el_35 rfl (by first | exact csS_one | exact byA_one | (intro cs hcs; obtain rfl := List.mem_singleton.1 hcs; rfl) | (intro cs hcs; obtain ⟨_, _, rfl⟩ := List.mem_map.1 hcs; rfl)) rfl ⟨_, _, rfl, rfl⟩ (by omega) (by simp only [csS_len, byA_len, List.length_map]; omega)) ⟨_, _, rfl, rfl, rfl⟩ ?_
        refine AD.r 12 rfl (rd_faddr_bx rfl fo_37_3 rfl rfl ⟨_, _, rfl⟩) ⟨_, _, rfl, rfl, rfl⟩ ?_
        refine AD.r 13 rfl (rd_load_bx rfl ag_35 rfl rfl rfl) ⟨_, _, rfl, rfl, rfl⟩ ?_
        refine AD.r 14 rfl (rd_move rfl rfl) ⟨_, _, rfl, rfl, rfl⟩ ?_
        refine AD.r 15 rfl (rd_iaddr_sl rfl el_35 rfl rfl rfl (get_mapA (by omega)) rfl) ⟨_, _, rfl, rfl, rfl⟩ ?_
        refine AD.r 16 rfl (rd_load_ep rfl ag_9 rfl rfl) ⟨_, _, rfl, rfl, rfl⟩ ?_
        refine AD.move 17 rfl (by kernel_rfl) ⟨_, _, rfl, rfl, rfl⟩ (op_call (has_c (f.cases.take k) _ (by rw [List.length_take]; omega)) rfl (by kernel_rfl) rfl (none) ?_)
        rintro r rfl
        refine AD.n ?_
        refine AD.r 18 rfl (rd_pick_f rfl rfl rfl) rfl ?_
        refine AD.done (by kernel_rfl) ?_
        change AW _ _ _ _ _
        refine AW.cd rfl (fun h61 => ?_) (fun h61 => ?_)
        ·skip
         refine AW.seq ?_
         refine AW.region ?_
         refine AL.ra ?_
         refine AL.nil ?_
         change AW _ _ _ _ _
         refine AW.ret ?_
         change ResA _ _ _ _ _
         refine res1 rfl (ResV.tmp rfl) rfl ?_
         rw [right3 h7 h35 h32, casesB_f (k := k) (by omega) (by simp_all), Bool.false_and]
        ·skip
         refine AW.skip ?_
         change AW _ _ _ _ _
         refine AW.region ?_
         refine AL.rm ?_
         refine AL.r (rd_arith_add rfl rfl rfl (by first | exact IntWalk.i64_in _ (by omega) | rfl)) ?_
         refine AL.ra ?_
         refine AL.nil ?_
         refine ⟨k + 1, ?_, by first | omega | (simp only []; omega), ?_, ?_⟩
         ·exact ⟨by omega, next_cases (by omega) hok (by simp_all)⟩
         ·simp only [anys, upds, offs, List.set_cons_zero, List.set_cons_succ]; repeat (first | exact Wk.nil | refine Wk.same ?_ | refine Wk.any ?_)
         ·simp only [anys, upds, offs, List.set_cons_zero, List.set_cons_succ]; repeat (first | exact Sk.nil _ | refine Sk.same _ ?_ | refine Sk.scr _ (by decide) ?_)
      ·skip
       refine AW.exit ?_
       change AW _ _ _ _ _
       refine AW.seq ?_
       refine AW.region ?_
       refine AL.r (rd_faddr_bx rfl fo_37_3 rfl rfl ⟨_, _, rfl⟩) ?_
       refine AL.r (rd_load_bx rfl ag_35 rfl rfl rfl) ?_
       refine AL.r (rd_len_sl rfl el_35 rfl) ?_
       refine AL.r (rd_bin rfl rfl rfl (fun _ => rfl)) ?_
       refine AL.rm ?_
       refine AL.fk (d := 66) rfl (fun h66 => ?_) (fun h66 => ?_)
       ·skip
        refine AL.n ?_
        refine AL.ro (rd_faddr_bx rfl fo_37_3 rfl rfl ⟨_, _, rfl⟩) ?_
        refine AL.ro (rd_load_bx rfl ag_35 rfl rfl rfl) ?_
        refine AL.ro (rd_faddr_bx rfl fo_37_2 rfl rfl ⟨_, _, rfl⟩) ?_
        refine AL.ro (rd_load_bx rfl ag_9 rfl rfl rfl) ?_
        refine AL.on rfl rfl rfl (AOpB.op (op_call (has_c f.cases _ hl) rfl (by kernel_rfl) rfl (none) ?_))
        rintro r rfl
        refine AL.n ?_
        refine AL.r (rd_pick_t rfl rfl rfl) ?_
        refine AL.ra ?_
        refine AL.nil ?_
        change AW _ _ _ _ _
        refine AW.ret ?_
        change ResA _ _ _ _ _
        refine res1 rfl (ResV.tmp rfl) rfl ?_
        rw [right3 h7 h35 h32, cases_end (fun i hi => hok i hi (by omega))]; first | (rw [decide_eq_true (by omega), Bool.true_and]) | (rw [decide_eq_false (by omega), Bool.false_and])
       ·skip
        refine AL.n ?_
        refine AL.rf ?_
        refine AL.rf ?_
        refine AL.rf ?_
        refine AL.rf ?_
        refine AL.rf ?_
        refine AL.r (rd_pick_f rfl rfl rfl) ?_
        refine AL.ra ?_
        refine AL.nil ?_
        change AW _ _ _ _ _
        refine AW.ret ?_
        change ResA _ _ _ _ _
        refine res1 rfl (ResV.tmp rfl) rfl ?_
        rw [right3 h7 h35 h32, cases_end (fun i hi => hok i hi (by omega))]; first | (rw [decide_eq_true (by omega), Bool.true_and]) | (rw [decide_eq_false (by omega), Bool.false_and])
     ·skip
      refine AW.skip ?_
      change AW _ _ _ _ _
      refine AW.seq ?_
      refine AW.seq ?_
      refine AW.region ?_
      refine AL.r (rd_faddr_bx rfl fo_37_3 rfl rfl ⟨_, _, rfl⟩) ?_
      refine AL.r (rd_load_bx rfl ag_35 rfl rfl rfl) ?_
      refine AL.r (rd_len_sl rfl el_35 rfl) ?_
      refine AL.r (rd_bin rfl rfl rfl (fun _ => rfl)) ?_
      refine AL.nil ?_
      change AW _ _ _ _ _
      refine AW.cd rfl (fun h76 => ?_) (fun h76 => ?_)
      ·skip
       refine AW.seq ?_
       refine AW.region ?_
       refine AL.ra ?_
       refine AL.nil ?_
       change AW _ _ _ _ _
       refine AW.ret ?_
       change ResA _ _ _ _ _
       refine res1 rfl (ResV.tmp rfl) rfl ?_
       (have hne : ¬ f.cases = [] := fun e => by (rw [e] at h76; simp at h76)); simp [rightF, h7, h10, h35, h32, hne]
      ·skip
       refine AW.skip ?_
       change AW _ _ _ _ _
       refine AW.seq ?_
       refine AW.region ?_
       refine AL.r (rd_faddr_bx rfl fo_37_1 rfl rfl ⟨_, _, rfl⟩) ?_
       refine AL.r (rd_load_bx rfl ag_3 rfl rfl rfl) ?_
       refine AL.r (rd_bin rfl rfl rfl (fun _ => rfl)) ?_
       refine AL.rm ?_
       refine AL.fk (d := 80) rfl (fun h80 => ?_) (fun h80 => ?_)
       ·skip
        refine AL.n ?_
        refine AL.ro (rd_faddr_bx rfl fo_37_2 rfl rfl ⟨_, _, rfl⟩) ?_
        refine AL.ro (rd_load_bx rfl ag_9 rfl rfl rfl) ?_
        refine AL.ro (rd_len_str rfl str_9 rfl) ?_
        refine AL.ro (rd_bin rfl rfl rfl (fun _ => rfl)) ?_
        refine AL.r (rd_pick_t rfl rfl rfl) ?_
        refine AL.rm ?_
        refine AL.fk (d := 86) rfl (fun h86 => ?_) (fun h86 => ?_)
        ·skip
         refine AL.n ?_
         refine AL.rf ?_
         refine AL.rf ?_
         refine AL.rf ?_
         refine AL.rf ?_
         refine AL.ru ?_
         refine AL.ru ?_
         refine AL.ru ?_
         refine AL.rf ?_
         refine AL.r (rd_pick_t rfl rfl rfl) ?_
         refine AL.ra ?_
         refine AL.nil ?_
         change AW _ _ _ _ _
         refine AW.ret ?_
         change ResA _ _ _ _ _
         refine res1 rfl (ResV.tmp rfl) rfl ?_
         (simp_all [rightF, len0] <;> (first | omega | (intros; omega) | (rw [Bool.eq_iff_iff]; simp; omega)))
        ·skip
         refine AL.n ?_
         refine AL.ro (rd_faddr_bx rfl fo_37_1 rfl rfl ⟨_, _, rfl⟩) ?_
         refine AL.ro (rd_load_bx rfl ag_3 rfl rfl rfl) ?_
         refine AL.ro (rd_bin rfl rfl rfl (fun _ => rfl)) ?_
         refine AL.ro (rd_move rfl rfl) ?_
         refine AL.fk (d := 90) rfl (fun h90 => ?_) (fun h90 => ?_)
         ·skip
          refine AL.n ?_
          refine AL.ro (rd_faddr_bx rfl fo_37_2 rfl rfl ⟨_, _, rfl⟩) ?_
          refine AL.ro (rd_load_bx rfl ag_9 rfl rfl rfl) ?_
          refine AL.ro (rd_seq rfl rfl rfl) ?_
          refine AL.ro (rd_pick_t rfl rfl rfl) ?_
          refine AL.r (rd_pick_f rfl rfl rfl) ?_
          refine AL.ra ?_
          refine AL.nil ?_
          change AW _ _ _ _ _
          refine AW.ret ?_
          change ResA _ _ _ _ _
          refine res1 rfl (ResV.tmp rfl) rfl ?_
          (simp_all [rightF, len0] <;> (first | omega | (intros; omega) | (rw [Bool.eq_iff_iff]; simp; omega)))
         ·skip
          refine AL.n ?_
          refine AL.rf ?_
          refine AL.rf ?_
          refine AL.rf ?_
          refine AL.ro (rd_pick_f rfl rfl rfl) ?_
          refine AL.r (rd_pick_f rfl rfl rfl) ?_
          refine AL.ra ?_
          refine AL.nil ?_
          change AW _ _ _ _ _
          refine AW.ret ?_
          change ResA _ _ _ _ _
          refine res1 rfl (ResV.tmp rfl) rfl ?_
          (simp_all [rightF, len0] <;> (first | omega | (intros; omega) | (rw [Bool.eq_iff_iff]; simp; omega)))
       ·skip
        refine AL.n ?_
        refine AL.rf ?_
        refine AL.rf ?_
        refine AL.rf ?_
        refine AL.rf ?_
        refine AL.r (rd_pick_f rfl rfl rfl) ?_
        refine AL.rm ?_
        refine AL.ro (rd_faddr_bx rfl fo_37_1 rfl rfl ⟨_, _, rfl⟩) ?_
        refine AL.ro (rd_load_bx rfl ag_3 rfl rfl rfl) ?_
        refine AL.ro (rd_bin rfl rfl rfl (fun _ => rfl)) ?_
        refine AL.ro (rd_move rfl rfl) ?_
        refine AL.fk (d := 90) rfl (fun h90 => ?_) (fun h90 => ?_)
        ·skip
         refine AL.n ?_
         refine AL.ro (rd_faddr_bx rfl fo_37_2 rfl rfl ⟨_, _, rfl⟩) ?_
         refine AL.ro (rd_load_bx rfl ag_9 rfl rfl rfl) ?_
         refine AL.ro (rd_seq rfl rfl rfl) ?_
         refine AL.ro (rd_pick_t rfl rfl rfl) ?_
         refine AL.r (rd_pick_f rfl rfl rfl) ?_
         refine AL.ra ?_
         refine AL.nil ?_
         change AW _ _ _ _ _
         refine AW.ret ?_
         change ResA _ _ _ _ _
         refine res1 rfl (ResV.tmp rfl) rfl ?_
         (simp_all [rightF, len0] <;> (first | omega | (intros; omega) | (rw [Bool.eq_iff_iff]; simp; omega)))
        ·skip
         refine AL.n ?_
         refine AL.rf ?_
         refine AL.rf ?_
         refine AL.rf ?_
         refine AL.ro (rd_pick_f rfl rfl rfl) ?_
         refine AL.r (rd_pick_f rfl rfl rfl) ?_
         refine AL.ra ?_
         refine AL.nil ?_
         change AW _ _ _ _ _
         refine AW.ret ?_
         change ResA _ _ _ _ _
         refine res1 rfl (ResV.tmp rfl) rfl ?_
         (simp_all [rightF, len0] <;> (first | omega | (intros; omega) | (rw [Bool.eq_iff_iff]; simp; omega)))
def idxS (l : List FldD) (r : RefD) : Int := match l.findIdx? (fun f => decide (f.at_ = r)) with | some i => (i : Int) | none => -1
end Go.Proofs.YtpkjlmaphhileaaDoor
