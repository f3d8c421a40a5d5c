/- Schemas, walked over abstract states. Conditions: lists of no more than a million fields where they are copied. -/
import Derived.Test.YtdgcbhihmnhnaaaRefA
namespace Go.Proofs.Ytdgcbhihmnhnaaa
set_option linter.unusedSimpArgs false
set_option linter.unusedVariables false
set_option maxRecDepth 100000
open Go.RowKit

/-- Is the field i right, and does it stand behind the one ahead of it? -/
def okS (l : List FldD) (i : Nat) : Bool := match l[i]? with
  | none => true
  | some f => rightF f && (match i with | 0 => true | j + 1 => match l[j]? with | none => true | some g => lessR g.at_ f.at_)
def rightS (l : List FldD) : Bool := decide (l.length ≤ 16) && (List.range l.length).all (okS l)
theorem okS_0 {l : List FldD} (h : 0 < l.length) : okS l 0 = rightF l[0] := by simp [okS, h]
theorem okS_s {l : List FldD} {k : Nat} (h : k < l.length) (h0 : 0 < k) : okS l k = (rightF l[k] && lessR (l[k - 1]'(by omega)).at_ l[k].at_) := by
  obtain ⟨j, rfl⟩ : ∃ j, k = j + 1 := ⟨k - 1, by omega⟩
  have hj : j < l.length := by omega
  simp [okS, h, hj]
theorem okS_rf {l : List FldD} {k : Nat} (h : k < l.length) (hr : rightF l[k] = false) : okS l k = false := by
  unfold okS
  rw [List.getElem?_eq_getElem h]
  simp [hr]
theorem rightS_t {l : List FldD} (h1 : l.length ≤ 16) (h : ∀ i, i < l.length → okS l i = true) : rightS l = true := by
  unfold rightS
  simp only [h1, decide_true, Bool.true_and, List.all_eq_true, List.mem_range]
  exact h
theorem rightS_f {l : List FldD} {k : Nat} (hk : k < l.length) (h : okS l k = false) : rightS l = false := by
  unfold rightS
  have : (List.range l.length).all (okS l) = false := by
    rw [List.all_eq_false]
    exact ⟨k, List.mem_range.2 hk, by rw [h]; simp⟩
  rw [this, Bool.and_false]
theorem rightS_long {l : List FldD} (h : 16 < l.length) : rightS l = false := by unfold rightS; rw [decide_eq_false (by omega), Bool.false_and]

theorem sright_c (l : List FldD) : AC Try.prog 57 [.sl (l.map FldD.cs)] (fun x => x = .s (AB (rightS l))) := by
  refine AC.of' 32 1 Try.func57 rfl ?_
  change AW _ _ _ _ [TK.mk 0 .off]
  refine AW.seq ?_
  refine AW.region ?_
  refine AL.ra ?_
  refine AL.nil ?_
  change AW _ _ _ _ _
  refine AW.seq ?_
  refine AW.seq ?_
  refine AW.region ?_
  refine AL.rm ?_
  refine AL.r (rd_len_sl rfl el_42 rfl) ?_
  refine AL.r (rd_bin rfl rfl rfl (fun _ => rfl)) ?_
  refine AL.nil ?_
  change AW _ _ _ _ _
  refine AW.cd rfl (fun h7 => ?_) (fun h7 => ?_)
  ·skip
   refine AW.seq ?_
   refine AW.region ?_
   refine AL.ra ?_
   refine AL.nil ?_
   change AW _ _ _ _ _
   refine AW.ret ?_
   change ResA _ _ _ _ _
   refine res1 rfl (ResV.tmp rfl) rfl ?_
   rw [rightS_long (by omega)]
  ·skip
   refine AW.skip ?_
   change AW _ _ _ _ _
   refine AW.seq ?_
   refine AW.seq ?_
   refine AW.region ?_
   refine AL.rm ?_
   refine AL.r (rd_len_sl rfl el_42 rfl) ?_
   refine AL.rm ?_
   refine AL.nil ?_
   change AW _ _ _ _ _
   refine AW.block ?_
   refine AW.loopM (ι := Nat) [2, 3, 4, 11, 12, 13, 14, 15, 16, 17, 18, 19, 20, 21, 22, 23, 24, 25, 26, 27, 28, 29, 30, 31, 32] (fun k => [(10, AI (k : Int))]) [0] (fun k => []) (fun k => k ≤ l.length ∧ ∀ i, i < k → okS l i = true) (fun k => l.length - k) 0 (⟨by omega, fun i hi => absurd hi (by omega)⟩) (by simp only [anys, upds, offs, List.set_cons_zero, List.set_cons_succ]; repeat (first | exact Wk.nil | refine Wk.same ?_ | refine Wk.any ?_)) (by simp only [anys, upds, offs, List.set_cons_zero, List.set_cons_succ]; repeat (first | exact Sk.nil _ | refine Sk.same _ ?_ | refine Sk.scr _ (by decide) ?_)) ?_
   rintro k gs hJ
   refine AW.norm (by simp only [anys, upds, offs, List.set_cons_zero, List.set_cons_succ]; rfl) (by (try simp only [anys, upds, offs, List.set_cons_zero, List.set_cons_succ]); (try rfl)) ?_
   obtain ⟨hk, hok⟩ := hJ
   refine AW.seq ?_
   refine AW.region ?_
   refine AL.r (rd_bin rfl rfl rfl (fun _ => rfl)) ?_
   refine AL.nil ?_
   change AW _ _ _ _ _
   refine AW.seq ?_
   refine AW.cd rfl (fun h11 => ?_) (fun h11 => ?_)
   ·skip
    refine AW.skip ?_
    change AW _ _ _ _ _
    refine AW.seq ?_
    refine AW.block ?_
    refine AW.seq ?_
    refine AW.region ?_
    refine AL.rm ?_
    refine AL.r (rd_iaddr_sl rfl el_42 rfl rfl rfl (get_mapA (by omega)) rfl) ?_
    refine AL.r (rd_loadN_ep rfl ag_47 rfl (Nat.le_of_ble_eq_true rfl) rfl) ?_
    refine AL.op rfl (AOpB.op (op_alloc 0 rfl ze_47 rfl ?_))
    refine AL.n ?_
    refine AL.ra ?_
    refine AL.op rfl (op_store_ rfl rfl rfl rfl rfl sz_47 ?_)
    refine AL.n ?_
    refine AL.nil ?_
    change AW _ _ _ _ _
    refine AW.seq ?_
    refine AW.seq ?_
    refine AW.region ?_
    refine AL.r (rd_loadN_bx rfl ag_47 rfl rfl (Nat.le_of_ble_eq_true rfl) rfl) ?_
    refine AL.op rfl (AOpB.op (op_call (right_c (l[k]'(by omega))) rfl (by kernel_rfl) rfl (none) ?_))
    rintro r rfl
    refine AL.n ?_
    refine AL.r (rd_un rfl rfl (fun _ => rfl)) ?_
    refine AL.nil ?_
    change AW _ _ _ _ _
    refine AW.cd rfl (fun h17 => ?_) (fun h17 => ?_)
    ·skip
     refine AW.seq ?_
     refine AW.region ?_
     refine AL.ra ?_
     refine AL.nil ?_
     change AW _ _ _ _ _
     refine AW.ret ?_
     change ResA _ _ _ _ _
     refine res1 rfl (ResV.tmp rfl) rfl ?_
     rw [rightS_f (k := k) (by omega) (by rcases Nat.eq_zero_or_pos k with h0 | h0; (subst h0; rw [okS_0 (by omega)]; simp_all); (rw [okS_s (by omega) h0]; simp_all))]
    ·skip
     refine AW.skip ?_
     change AW _ _ _ _ _
     refine AW.seq ?_
     refine AW.draw (by kernel_rfl) ?_
     refine AD.r 0 rfl (rd_move rfl rfl) rfl ?_
     refine AD.r 1 rfl (rd_bin rfl rfl rfl (fun _ => rfl)) rfl ?_
     refine AD.r 2 rfl (rd_move rfl rfl) rfl ?_
     refine AD.fk (d := 20) rfl (fun h20 => ?_) (fun h20 => ?_)
     ·skip
      refine AD.n ?_
      refine AD.r 3 rfl (rd_move rfl rfl) ⟨_, _, rfl, rfl, rfl⟩ ?_
      refine AD.r 4 rfl (rd_move rfl rfl) ⟨_, _, rfl, rfl, rfl⟩ ?_
      refine AD.r 5 rfl (rd_arith_sub rfl rfl rfl (by first | exact IntWalk.i64_in _ (by omega) | rfl)) ⟨_, _, rfl, rfl, rfl⟩ ?_
      refine AD.r 6 rfl (rd_iaddr_sl rfl el_42 rfl rfl (n := k - 1) (by omega) (get_mapA (by omega)) rfl) ⟨_, _, rfl, rfl, rfl⟩ ?_
      refine AD.r 7 rfl (rd_faddr_ep rfl fo_47_0 rfl) ⟨_, _, rfl, rfl, rfl⟩ ?_
      refine AD.r 8 rfl (rd_loadN_ep rfl ag_44 rfl (Nat.le_of_ble_eq_true rfl) rfl) ⟨_, _, rfl, rfl, rfl⟩ ?_
      refine AD.r 9 rfl (rd_faddr_bx rfl fo_47_0 rfl rfl ⟨_, _, rfl⟩) ⟨_, _, rfl, rfl, rfl⟩ ?_
      refine AD.r 10 rfl (rd_loadN_bx rfl ag_44 rfl rfl (Nat.le_of_ble_eq_true rfl) rfl) ⟨_, _, rfl, rfl, rfl⟩ ?_
      refine AD.move 11 rfl (by kernel_rfl) ⟨_, _, rfl, rfl, rfl⟩ (op_call (less_c (l[k - 1]'(by omega)).at_ (l[k]'(by omega)).at_) rfl (by kernel_rfl) rfl (none) ?_)
      rintro r rfl
      refine AD.n ?_
      refine AD.r 12 rfl (rd_un rfl rfl (fun _ => rfl)) ⟨_, _, rfl, rfl, rfl⟩ ?_
      refine AD.r 13 rfl (rd_pick_t rfl rfl rfl) rfl ?_
      refine AD.done (by kernel_rfl) ?_
      change AW _ _ _ _ _
      refine AW.cd rfl (fun h31 => ?_) (fun h31 => ?_)
      ·skip
       refine AW.seq ?_
       refine AW.region ?_
       refine AL.ra ?_
       refine AL.nil ?_
       change AW _ _ _ _ _
       refine AW.ret ?_
       change ResA _ _ _ _ _
       refine res1 rfl (ResV.tmp rfl) rfl ?_
       rw [rightS_f (k := k) (by omega) (by rw [okS_s (by omega) (by omega)]; simp_all)]
      ·skip
       refine AW.skip ?_
       change AW _ _ _ _ _
       refine AW.region ?_
       refine AL.r (rd_arith_add rfl rfl rfl (by first | exact IntWalk.i64_in _ (by omega) | rfl)) ?_
       refine AL.rm ?_
       refine AL.nil ?_
       refine ⟨k + 1, ?_, by first | omega | (simp only []; omega), ?_, ?_⟩
       ·exact ⟨by omega, all_next hok (by first | (rw [okS_s (by omega) (by omega)]; simp_all) | (obtain rfl : k = 0 := (by omega); rw [okS_0 (by omega)]; simp_all))⟩
       ·simp only [anys, upds, offs, List.set_cons_zero, List.set_cons_succ]; repeat (first | exact Wk.nil | refine Wk.same ?_ | refine Wk.any ?_)
       ·simp only [anys, upds, offs, List.set_cons_zero, List.set_cons_succ]; repeat (first | exact Sk.nil _ | refine Sk.same _ ?_ | refine Sk.scr _ (by decide) ?_)
     ·skip
      refine AD.n ?_
      refine AD.s 3 rfl ⟨_, _, rfl, rfl, rfl⟩ ?_
      refine AD.s 4 rfl ⟨_, _, rfl, rfl, rfl⟩ ?_
      refine AD.s 5 rfl ⟨_, _, rfl, rfl, rfl⟩ ?_
      refine AD.s 6 rfl ⟨_, _, rfl, rfl, rfl⟩ ?_
      refine AD.s 7 rfl ⟨_, _, rfl, rfl, rfl⟩ ?_
      refine AD.s 8 rfl ⟨_, _, rfl, rfl, rfl⟩ ?_
      refine AD.s 9 rfl ⟨_, _, rfl, rfl, rfl⟩ ?_
      refine AD.s 10 rfl ⟨_, _, rfl, rfl, rfl⟩ ?_
      refine AD.s 11 rfl ⟨_, _, rfl, rfl, rfl⟩ ?_
      refine AD.s 12 rfl ⟨_, _, rfl, rfl, rfl⟩ ?_
      refine AD.r 13 rfl (rd_pick_f rfl rfl rfl) rfl ?_
      refine AD.done (by kernel_rfl) ?_
      change AW _ _ _ _ _
      refine AW.cond_f rfl ?_
      refine AW.skip ?_
      change AW _ _ _ _ _
      refine AW.region ?_
      refine AL.r (rd_arith_add rfl rfl rfl (by first | exact IntWalk.i64_in _ (by omega) | rfl)) ?_
      refine AL.rm ?_
      refine AL.nil ?_
      refine ⟨k + 1, ?_, by first | omega | (simp only []; omega), ?_, ?_⟩
      ·exact ⟨by omega, all_next hok (by first | (rw [okS_s (by omega) (by omega)]; simp_all) | (obtain rfl : k = 0 := (by omega); rw [okS_0 (by omega)]; simp_all))⟩
      ·simp only [anys, upds, offs, List.set_cons_zero, List.set_cons_succ]; repeat (first | exact Wk.nil | refine Wk.same ?_ | refine Wk.any ?_)
      ·simp only [anys, upds, offs, List.set_cons_zero, List.set_cons_succ]; repeat (first | exact Sk.nil _ | refine Sk.same _ ?_ | refine Sk.scr _ (by decide) ?_)
   ·skip
    refine AW.exit ?_
    change AW _ _ _ _ _
    refine AW.seq ?_
    refine AW.region ?_
    refine AL.ra ?_
    refine AL.nil ?_
    change AW _ _ _ _ _
    refine AW.ret ?_
    change ResA _ _ _ _ _
    refine res1 rfl (ResV.tmp rfl) rfl ?_
    rw [rightS_t (by omega) (fun i hi => hok i (by omega))]
theorem right3 {f : FldD} (h1 : placeB f.at_ = true) (h2 : f.kind = 3) (h3 : f.worth = 0) : rightF f = (casesB f.cases && f.cases.contains f.dflt) := by simp [rightF, h1, h2, h3]
theorem cases_end {l : List Bytes} {s : Bytes} (h : ∀ i (hi : i < l.length), (nameB l[i] && !(l.take i).contains l[i]) = true) : (casesB l && l.contains s) = (decide (l.length < 7) && l.contains s) := by
  rcases Nat.eq_zero_or_pos l.length with h0 | h0
  · have : l = [] := List.eq_nil_of_length_eq_zero h0
    subst this
    simp
  · by_cases h6 : l.length ≤ 6
    · rw [casesB_t h0 h6 h, decide_eq_true (by omega)]
    · rw [decide_eq_false (by omega), Bool.false_and]
      unfold casesB
      rw [decide_eq_false h6]
      simp
theorem rright13 (f : FldD) (hl : f.cases.length ≤ 9223372036854775000) : AC Try.prog 112 [f.av] (fun x => x = .s (AB (rightF f))) := by
  refine AC.of' 95 1 Try.func112 rfl ?_
  change AW _ _ _ _ [TK.mk 0 .off]
  refine AW.seq ?_
  refine AW.region ?_
  refine AL.op rfl (AOpB.op (op_box 0 rfl rfl rfl rfl rfl ?_))
  refine AL.n ?_
  refine AL.ra ?_
  refine AL.nil ?_
  change AW _ _ _ _ _
  refine AW.seq ?_
  refine AW.seq ?_
  refine AW.region ?_
  refine AL.r (rd_faddr_bx rfl fo_47_0 rfl rfl ⟨_, _, rfl⟩) ?_
  refine AL.r (rd_loadN_bx rfl ag_44 rfl rfl (Nat.le_of_ble_eq_true rfl) rfl) ?_
  refine AL.op rfl (AOpB.op (op_call (rplace_c f.at_) rfl (by kernel_rfl) rfl (none) ?_))
  rintro r rfl
  refine AL.n ?_
  refine AL.r (rd_un rfl rfl (fun _ => rfl)) ?_
  refine AL.nil ?_
  change AW _ _ _ _ _
  refine AW.cd rfl (fun h7 => ?_) (fun h7 => ?_)
  ·skip
   refine AW.seq ?_
   refine AW.region ?_
   refine AL.ra ?_
   refine AL.nil ?_
   change AW _ _ _ _ _
   refine AW.ret ?_
   change ResA _ _ _ _ _
   refine res1 rfl (ResV.tmp rfl) rfl ?_
   (simp_all [rightF, len0] <;> (first | omega | (intros; omega) | (rw [Bool.eq_iff_iff]; simp; omega)))
  ·skip
   refine AW.skip ?_
   change AW _ _ _ _ _
   refine AW.seq ?_
   refine AW.seq ?_
   refine AW.region ?_
   refine AL.r (rd_faddr_bx rfl fo_47_1 rfl rfl ⟨_, _, rfl⟩) ?_
   refine AL.r (rd_load_bx rfl ag_3 rfl rfl rfl) ?_
   refine AL.r (rd_bin rfl rfl rfl (fun _ => rfl)) ?_
   refine AL.nil ?_
   change AW _ _ _ _ _
   refine AW.cd rfl (fun h10 => ?_) (fun h10 => ?_)
   ·skip
    refine AW.seq ?_
    refine AW.region ?_
    refine AL.r (rd_faddr_bx rfl fo_47_2 rfl rfl ⟨_, _, rfl⟩) ?_
    refine AL.r (rd_load_bx rfl ag_9 rfl rfl rfl) ?_
    refine AL.r (rd_seq rfl rfl rfl) ?_
    refine AL.rm ?_
    refine AL.fk (d := 14) rfl (fun h14 => ?_) (fun h14 => ?_)
    ·skip
     refine AL.n ?_
     refine AL.ro (rd_faddr_bx rfl fo_47_3 rfl rfl ⟨_, _, rfl⟩) ?_
     refine AL.ro (rd_load_bx rfl ag_45 rfl rfl rfl) ?_
     refine AL.ro (rd_len_sl rfl el_45 rfl) ?_
     refine AL.ro (rd_bin rfl rfl rfl (fun _ => rfl)) ?_
     refine AL.r (rd_pick_t rfl rfl rfl) ?_
     refine AL.rm ?_
     refine AL.fk (d := 20) rfl (fun h20 => ?_) (fun h20 => ?_)
     ·skip
      refine AL.n ?_
      refine AL.ro (rd_faddr_bx rfl fo_47_4 rfl rfl ⟨_, _, rfl⟩) ?_
      refine AL.ro (rd_load_bx rfl ag_2 rfl rfl rfl) ?_
      refine AL.ro (rd_bin rfl rfl rfl (fun _ => rfl)) ?_
      refine AL.r (rd_pick_t rfl rfl rfl) ?_
      refine AL.rm ?_
      refine AL.fk (d := 25) rfl (fun h25 => ?_) (fun h25 => ?_)
      ·skip
       refine AL.n ?_
       refine AL.ro (rd_faddr_bx rfl fo_47_4 rfl rfl ⟨_, _, rfl⟩) ?_
       refine AL.ro (rd_load_bx rfl ag_2 rfl rfl rfl) ?_
       refine AL.ro (rd_bin rfl rfl rfl (fun _ => rfl)) ?_
       refine AL.r (rd_pick_t rfl rfl rfl) ?_
       refine AL.ra ?_
       refine AL.nil ?_
       change AW _ _ _ _ _
       refine AW.ret ?_
       change ResA _ _ _ _ _
       refine res1 rfl (ResV.tmp rfl) rfl ?_
       (simp_all [rightF, len0] <;> (first | omega | (intros; omega) | (rw [Bool.eq_iff_iff]; simp; omega)))
      ·skip
       refine AL.n ?_
       refine AL.rf ?_
       refine AL.rf ?_
       refine AL.rf ?_
       refine AL.r (rd_pick_f rfl rfl rfl) ?_
       refine AL.ra ?_
       refine AL.nil ?_
       change AW _ _ _ _ _
       refine AW.ret ?_
       change ResA _ _ _ _ _
       refine res1 rfl (ResV.tmp rfl) rfl ?_
       (simp_all [rightF, len0] <;> (first | omega | (intros; omega) | (rw [Bool.eq_iff_iff]; simp; omega)))
     ·skip
      refine AL.n ?_
      refine AL.rf ?_
      refine AL.rf ?_
      refine AL.rf ?_
      refine AL.r (rd_pick_f rfl rfl rfl) ?_
      refine AL.rm ?_
      refine AL.rf ?_
      refine AL.rf ?_
      refine AL.rf ?_
      refine AL.r (rd_pick_f rfl rfl rfl) ?_
      refine AL.ra ?_
      refine AL.nil ?_
      change AW _ _ _ _ _
      refine AW.ret ?_
      change ResA _ _ _ _ _
      refine res1 rfl (ResV.tmp rfl) rfl ?_
      (simp_all [rightF, len0] <;> (first | omega | (intros; omega) | (rw [Bool.eq_iff_iff]; simp; omega)))
    ·skip
     refine AL.n ?_
     refine AL.rf ?_
     refine AL.rf ?_
     refine AL.rf ?_
     refine AL.rf ?_
     refine AL.r (rd_pick_f rfl rfl rfl) ?_
     refine AL.rm ?_
     refine AL.rf ?_
     refine AL.rf ?_
     refine AL.rf ?_
     refine AL.r (rd_pick_f rfl rfl rfl) ?_
     refine AL.rm ?_
     refine AL.rf ?_
     refine AL.rf ?_
     refine AL.rf ?_
     refine AL.r (rd_pick_f rfl rfl rfl) ?_
     refine AL.ra ?_
     refine AL.nil ?_
     change AW _ _ _ _ _
     refine AW.ret ?_
     change ResA _ _ _ _ _
     refine res1 rfl (ResV.tmp rfl) rfl ?_
     (simp_all [rightF, len0] <;> (first | omega | (intros; omega) | (rw [Bool.eq_iff_iff]; simp; omega)))
   ·skip
    refine AW.skip ?_
    change AW _ _ _ _ _
    refine AW.seq ?_
    refine AW.seq ?_
    refine AW.region ?_
    refine AL.r (rd_faddr_bx rfl fo_47_4 rfl rfl ⟨_, _, rfl⟩) ?_
    refine AL.r (rd_load_bx rfl ag_2 rfl rfl rfl) ?_
    refine AL.r (rd_bin rfl rfl rfl (fun _ => rfl)) ?_
    refine AL.nil ?_
    change AW _ _ _ _ _
    refine AW.cd rfl (fun h32 => ?_) (fun h32 => ?_)
    ·skip
     refine AW.seq ?_
     refine AW.region ?_
     refine AL.ra ?_
     refine AL.nil ?_
     change AW _ _ _ _ _
     refine AW.ret ?_
     change ResA _ _ _ _ _
     refine res1 rfl (ResV.tmp rfl) rfl ?_
     (simp_all [rightF, len0] <;> (first | omega | (intros; omega) | (rw [Bool.eq_iff_iff]; simp; omega)))
    ·skip
     refine AW.skip ?_
     change AW _ _ _ _ _
     refine AW.seq ?_
     refine AW.seq ?_
     refine AW.region ?_
     refine AL.r (rd_faddr_bx rfl fo_47_1 rfl rfl ⟨_, _, rfl⟩) ?_
     refine AL.r (rd_load_bx rfl ag_3 rfl rfl rfl) ?_
     refine AL.r (rd_bin rfl rfl rfl (fun _ => rfl)) ?_
     refine AL.nil ?_
     change AW _ _ _ _ _
     refine AW.cd rfl (fun h35 => ?_) (fun h35 => ?_)
     ·skip
      refine AW.seq ?_
      refine AW.seq ?_
      refine AW.region ?_
      refine AL.ra ?_
      refine AL.nil ?_
      change AW _ _ _ _ _
      refine AW.block ?_
      refine AW.loopM (ι := Nat) [2, 36, 37, 38, 39, 40, 41, 42, 43, 44, 45, 46, 47, 48, 49, 50, 51, 52, 53, 54, 55, 56, 57, 58, 59, 60, 61] (fun k => [(3, AI (k : Int))]) [] (fun k => []) (fun k => k ≤ f.cases.length ∧ ∀ i (hi : i < f.cases.length), i < k → (nameB f.cases[i] && !(f.cases.take i).contains f.cases[i]) = true) (fun k => f.cases.length - k) 0 (⟨by omega, fun i _ hi => absurd hi (by omega)⟩) (by simp only [anys, upds, offs, List.set_cons_zero, List.set_cons_succ]; repeat (first | exact Wk.nil | refine Wk.same ?_ | refine Wk.any ?_)) (by simp only [anys, upds, offs, List.set_cons_zero, List.set_cons_succ]; repeat (first | exact Sk.nil _ | refine Sk.same _ ?_ | refine Sk.scr _ (by decide) ?_)) ?_
      rintro k gs hJ
      refine AW.norm (by simp only [anys, upds, offs, List.set_cons_zero, List.set_cons_succ]; rfl) (by (try simp only [anys, upds, offs, List.set_cons_zero, List.set_cons_succ]); (try rfl)) ?_
      obtain ⟨hk, hok⟩ := hJ
      refine AW.seq ?_
      refine AW.seq ?_
      refine AW.region ?_
      refine AL.rm ?_
      refine AL.r (rd_faddr_bx rfl fo_47_3 rfl rfl ⟨_, _, rfl⟩) ?_
      refine AL.r (rd_load_bx rfl ag_45 rfl rfl rfl) ?_
      refine AL.r (rd_len_sl rfl el_45 rfl) ?_
      refine AL.r (rd_bin rfl rfl rfl (fun _ => rfl)) ?_
      refine AL.nil ?_
      change AW _ _ _ _ _
      refine AW.cd rfl (fun h40 => ?_) (fun h40 => ?_)
      ·skip
       refine AW.skip ?_
       change AW _ _ _ _ _
       refine AW.seq ?_
       refine AW.block ?_
       refine AW.seq ?_
       refine AW.draw (by kernel_rfl) ?_
       refine AD.r 0 rfl (rd_faddr_bx rfl fo_47_3 rfl rfl ⟨_, _, rfl⟩) rfl ?_
       refine AD.r 1 rfl (rd_load_bx rfl ag_45 rfl rfl rfl) rfl ?_
       refine AD.r 2 rfl (rd_move rfl rfl) rfl ?_
       refine AD.r 3 rfl (rd_iaddr_sl rfl el_45 rfl rfl rfl (get_mapA (by omega)) rfl) rfl ?_
       refine AD.r 4 rfl (rd_load_ep rfl ag_9 rfl rfl) rfl ?_
       refine AD.move 5 rfl (by kernel_rfl) rfl (op_call (rname_c _) rfl (by kernel_rfl) rfl (none) ?_)
       rintro r rfl
       refine AD.n ?_
       refine AD.r 6 rfl (rd_un rfl rfl (fun _ => rfl)) rfl ?_
       refine AD.r 7 rfl (rd_move rfl rfl) rfl ?_
       refine AD.fk (d := 50) rfl (fun h50 => ?_) (fun h50 => ?_)
       ·skip
        refine AD.n ?_
        refine AD.s 8 rfl ⟨_, _, rfl, rfl, rfl⟩ ?_
        refine AD.s 9 rfl ⟨_, _, rfl, rfl, rfl⟩ ?_
        refine AD.s 10 rfl ⟨_, _, rfl, rfl, rfl⟩ ?_
        refine AD.s 11 rfl ⟨_, _, rfl, rfl, rfl⟩ ?_
        refine AD.s 12 rfl ⟨_, _, rfl, rfl, rfl⟩ ?_
        refine AD.s 13 rfl ⟨_, _, rfl, rfl, rfl⟩ ?_
        refine AD.s 14 rfl ⟨_, _, rfl, rfl, rfl⟩ ?_
        refine AD.s 15 rfl ⟨_, _, rfl, rfl, rfl⟩ ?_
        refine AD.s 16 rfl ⟨_, _, rfl, rfl, rfl⟩ ?_
        refine AD.s 17 rfl ⟨_, _, rfl, rfl, rfl⟩ ?_
        refine AD.r 18 rfl (rd_pick_t rfl rfl rfl) rfl ?_
        refine AD.done (by kernel_rfl) ?_
        change AW _ _ _ _ _
        refine AW.cond_t rfl ?_
        refine AW.seq ?_
        refine AW.region ?_
        refine AL.ra ?_
        refine AL.nil ?_
        change AW _ _ _ _ _
        refine AW.ret ?_
        change ResA _ _ _ _ _
        refine res1 rfl (ResV.tmp rfl) rfl ?_
        rw [right3 h7 h35 h32, casesB_f (k := k) (by omega) (by simp_all), Bool.false_and]
       ·skip
        refine AD.n ?_
        refine AD.r 8 rfl (rd_faddr_bx rfl fo_47_3 rfl rfl ⟨_, _, rfl⟩) ⟨_, _, rfl, rfl, rfl⟩ ?_
        refine AD.r 9 rfl (rd_load_bx rfl ag_45 rfl rfl rfl) ⟨_, _, rfl, rfl, rfl⟩ ?_
        refine AD.r 10 rfl (rd_move rfl rfl) ⟨_, _, rfl, rfl, rfl⟩ ?_
        refine AD.r 11 rfl (rd_slice_sl rfl el_45 rfl (by first | exact csS_one | exact byA_one | (intro cs hcs; obtain rfl := List.mem_singleton.1 hcs; rfl) | (intro cs hcs; obtain ⟨_, _, rfl⟩ := List.mem_map.1 hcs; rfl)) rfl ⟨_, _, rfl, rfl⟩ (by omega) (by simp only [csS_len, byA_len, List.length_map]; omega)) ⟨_, _, rfl, rfl, rfl⟩ ?_
        refine AD.r 12 rfl (rd_faddr_bx rfl fo_47_3 rfl rfl ⟨_, _, rfl⟩) ⟨_, _, rfl, rfl, rfl⟩ ?_
        refine AD.r 13 rfl (rd_load_bx rfl ag_45 rfl rfl rfl) ⟨_, _, rfl, rfl, rfl⟩ ?_
        refine AD.r 14 rfl (rd_move rfl rfl) ⟨_, _, rfl, rfl, rfl⟩ ?_
        refine AD.r 15 rfl (rd_iaddr_sl rfl el_45 rfl rfl rfl (get_mapA (by omega)) rfl) ⟨_, _, rfl, rfl, rfl⟩ ?_
        refine AD.r 16 rfl (rd_load_ep rfl ag_9 rfl rfl) ⟨_, _, rfl, rfl, rfl⟩ ?_
        refine AD.move 17 rfl (by kernel_rfl) ⟨_, _, rfl, rfl, rfl⟩ (op_call (has_c (f.cases.take k) _ (by rw [List.length_take]; omega)) rfl (by kernel_rfl) rfl (none) ?_)
        rintro r rfl
        refine AD.n ?_
        refine AD.r 18 rfl (rd_pick_f rfl rfl rfl) rfl ?_
        refine AD.done (by kernel_rfl) ?_
        change AW _ _ _ _ _
        refine AW.cd rfl (fun h61 => ?_) (fun h61 => ?_)
        ·skip
         refine AW.seq ?_
         refine AW.region ?_
         refine AL.ra ?_
         refine AL.nil ?_
         change AW _ _ _ _ _
         refine AW.ret ?_
         change ResA _ _ _ _ _
         refine res1 rfl (ResV.tmp rfl) rfl ?_
         rw [right3 h7 h35 h32, casesB_f (k := k) (by omega) (by simp_all), Bool.false_and]
        ·skip
         refine AW.skip ?_
         change AW _ _ _ _ _
         refine AW.region ?_
         refine AL.rm ?_
         refine AL.r (rd_arith_add rfl rfl rfl (by first | exact IntWalk.i64_in _ (by omega) | rfl)) ?_
         refine AL.ra ?_
         refine AL.nil ?_
         refine ⟨k + 1, ?_, by first | omega | (simp only []; omega), ?_, ?_⟩
         ·exact ⟨by omega, next_cases (by omega) hok (by simp_all)⟩
         ·simp only [anys, upds, offs, List.set_cons_zero, List.set_cons_succ]; repeat (first | exact Wk.nil | refine Wk.same ?_ | refine Wk.any ?_)
         ·simp only [anys, upds, offs, List.set_cons_zero, List.set_cons_succ]; repeat (first | exact Sk.nil _ | refine Sk.same _ ?_ | refine Sk.scr _ (by decide) ?_)
      ·skip
       refine AW.exit ?_
       change AW _ _ _ _ _
       refine AW.seq ?_
       refine AW.region ?_
       refine AL.r (rd_faddr_bx rfl fo_47_3 rfl rfl ⟨_, _, rfl⟩) ?_
       refine AL.r (rd_load_bx rfl ag_45 rfl rfl rfl) ?_
       refine AL.r (rd_len_sl rfl el_45 rfl) ?_
       refine AL.r (rd_bin rfl rfl rfl (fun _ => rfl)) ?_
       refine AL.rm ?_
       refine AL.fk (d := 66) rfl (fun h66 => ?_) (fun h66 => ?_)
       ·skip
        refine AL.n ?_
        refine AL.ro (rd_faddr_bx rfl fo_47_3 rfl rfl ⟨_, _, rfl⟩) ?_
        refine AL.ro (rd_load_bx rfl ag_45 rfl rfl rfl) ?_
        refine AL.ro (rd_faddr_bx rfl fo_47_2 rfl rfl ⟨_, _, rfl⟩) ?_
        refine AL.ro (rd_load_bx rfl ag_9 rfl rfl rfl) ?_
        refine AL.on rfl rfl rfl (AOpB.op (op_call (has_c f.cases _ hl) rfl (by kernel_rfl) rfl (none) ?_))
        rintro r rfl
        refine AL.n ?_
        refine AL.r (rd_pick_t rfl rfl rfl) ?_
        refine AL.ra ?_
        refine AL.nil ?_
        change AW _ _ _ _ _
        refine AW.ret ?_
        change ResA _ _ _ _ _
        refine res1 rfl (ResV.tmp rfl) rfl ?_
        rw [right3 h7 h35 h32, cases_end (fun i hi => hok i hi (by omega))]; first | (rw [decide_eq_true (by omega), Bool.true_and]) | (rw [decide_eq_false (by omega), Bool.false_and])
       ·skip
        refine AL.n ?_
        refine AL.rf ?_
        refine AL.rf ?_
        refine AL.rf ?_
        refine AL.rf ?_
        refine AL.rf ?_
        refine AL.r (rd_pick_f rfl rfl rfl) ?_
        refine AL.ra ?_
        refine AL.nil ?_
        change AW _ _ _ _ _
        refine AW.ret ?_
        change ResA _ _ _ _ _
        refine res1 rfl (ResV.tmp rfl) rfl ?_
        rw [right3 h7 h35 h32, cases_end (fun i hi => hok i hi (by omega))]; first | (rw [decide_eq_true (by omega), Bool.true_and]) | (rw [decide_eq_false (by omega), Bool.false_and])
     ·skip
      refine AW.skip ?_
      change AW _ _ _ _ _
      refine AW.seq ?_
      refine AW.seq ?_
      refine AW.region ?_
      refine AL.r (rd_faddr_bx rfl fo_47_3 rfl rfl ⟨_, _, rfl⟩) ?_
      refine AL.r (rd_load_bx rfl ag_45 rfl rfl rfl) ?_
      refine AL.r (rd_len_sl rfl el_45 rfl) ?_
      refine AL.r (rd_bin rfl rfl rfl (fun _ => rfl)) ?_
      refine AL.nil ?_
      change AW _ _ _ _ _
      refine AW.cd rfl (fun h76 => ?_) (fun h76 => ?_)
      ·skip
       refine AW.seq ?_
       refine AW.region ?_
       refine AL.ra ?_
       refine AL.nil ?_
       change AW _ _ _ _ _
       refine AW.ret ?_
       change ResA _ _ _ _ _
       refine res1 rfl (ResV.tmp rfl) rfl ?_
       (have hne : ¬ f.cases = [] := fun e => by (rw [e] at h76; simp at h76)); simp [rightF, h7, h10, h35, h32, hne]
      ·skip
       refine AW.skip ?_
       change AW _ _ _ _ _
       refine AW.seq ?_
       refine AW.region ?_
       refine AL.r (rd_faddr_bx rfl fo_47_1 rfl rfl ⟨_, _, rfl⟩) ?_
       refine AL.r (rd_load_bx rfl ag_3 rfl rfl rfl) ?_
       refine AL.r (rd_bin rfl rfl rfl (fun _ => rfl)) ?_
       refine AL.rm ?_
       refine AL.fk (d := 80) rfl (fun h80 => ?_) (fun h80 => ?_)
       ·skip
        refine AL.n ?_
        refine AL.ro (rd_faddr_bx rfl fo_47_2 rfl rfl ⟨_, _, rfl⟩) ?_
        refine AL.ro (rd_load_bx rfl ag_9 rfl rfl rfl) ?_
        refine AL.ro (rd_len_str rfl str_9 rfl) ?_
        refine AL.ro (rd_bin rfl rfl rfl (fun _ => rfl)) ?_
        refine AL.r (rd_pick_t rfl rfl rfl) ?_
        refine AL.rm ?_
        refine AL.fk (d := 86) rfl (fun h86 => ?_) (fun h86 => ?_)
        ·skip
         refine AL.n ?_
         refine AL.rf ?_
         refine AL.rf ?_
         refine AL.rf ?_
         refine AL.rf ?_
         refine AL.ru ?_
         refine AL.ru ?_
         refine AL.ru ?_
         refine AL.rf ?_
         refine AL.r (rd_pick_t rfl rfl rfl) ?_
         refine AL.ra ?_
         refine AL.nil ?_
         change AW _ _ _ _ _
         refine AW.ret ?_
         change ResA _ _ _ _ _
         refine res1 rfl (ResV.tmp rfl) rfl ?_
         (simp_all [rightF, len0] <;> (first | omega | (intros; omega) | (rw [Bool.eq_iff_iff]; simp; omega)))
        ·skip
         refine AL.n ?_
         refine AL.ro (rd_faddr_bx rfl fo_47_1 rfl rfl ⟨_, _, rfl⟩) ?_
         refine AL.ro (rd_load_bx rfl ag_3 rfl rfl rfl) ?_
         refine AL.ro (rd_bin rfl rfl rfl (fun _ => rfl)) ?_
         refine AL.ro (rd_move rfl rfl) ?_
         refine AL.fk (d := 90) rfl (fun h90 => ?_) (fun h90 => ?_)
         ·skip
          refine AL.n ?_
          refine AL.ro (rd_faddr_bx rfl fo_47_2 rfl rfl ⟨_, _, rfl⟩) ?_
          refine AL.ro (rd_load_bx rfl ag_9 rfl rfl rfl) ?_
          refine AL.ro (rd_seq rfl rfl rfl) ?_
          refine AL.ro (rd_pick_t rfl rfl rfl) ?_
          refine AL.r (rd_pick_f rfl rfl rfl) ?_
          refine AL.ra ?_
          refine AL.nil ?_
          change AW _ _ _ _ _
          refine AW.ret ?_
          change ResA _ _ _ _ _
          refine res1 rfl (ResV.tmp rfl) rfl ?_
          (simp_all [rightF, len0] <;> (first | omega | (intros; omega) | (rw [Bool.eq_iff_iff]; simp; omega)))
         ·skip
          refine AL.n ?_
          refine AL.rf ?_
          refine AL.rf ?_
          refine AL.rf ?_
          refine AL.ro (rd_pick_f rfl rfl rfl) ?_
          refine AL.r (rd_pick_f rfl rfl rfl) ?_
          refine AL.ra ?_
          refine AL.nil ?_
          change AW _ _ _ _ _
          refine AW.ret ?_
          change ResA _ _ _ _ _
          refine res1 rfl (ResV.tmp rfl) rfl ?_
          (simp_all [rightF, len0] <;> (first | omega | (intros; omega) | (rw [Bool.eq_iff_iff]; simp; omega)))
       ·skip
        refine AL.n ?_
        refine AL.rf ?_
        refine AL.rf ?_
        refine AL.rf ?_
        refine AL.rf ?_
        refine AL.r (rd_pick_f rfl rfl rfl) ?_
        refine AL.rm ?_
        refine AL.ro (rd_faddr_bx rfl fo_47_1 rfl rfl ⟨_, _, rfl⟩) ?_
        refine AL.ro (rd_load_bx rfl ag_3 rfl rfl rfl) ?_
        refine AL.ro (rd_bin rfl rfl rfl (fun _ => rfl)) ?_
        refine AL.ro (rd_move rfl rfl) ?_
        refine AL.fk (d := 90) rfl (fun h90 => ?_) (fun h90 => ?_)
        ·skip
         refine AL.n ?_
         refine AL.ro (rd_faddr_bx rfl fo_47_2 rfl rfl ⟨_, _, rfl⟩) ?_
         refine AL.ro (rd_load_bx rfl ag_9 rfl rfl rfl) ?_
         refine AL.ro (rd_seq rfl rfl rfl) ?_
         refine AL.ro (rd_pick_t rfl rfl rfl) ?_
         refine AL.r (rd_pick_f rfl rfl rfl) ?_
         refine AL.ra ?_
         refine AL.nil ?_
         change AW _ _ _ _ _
         refine AW.ret ?_
         change ResA _ _ _ _ _
         refine res1 rfl (ResV.tmp rfl) rfl ?_
         (simp_all [rightF, len0] <;> (first | omega | (intros; omega) | (rw [Bool.eq_iff_iff]; simp; omega)))
        ·skip
         refine AL.n ?_
         refine AL.rf ?_
         refine AL.rf ?_
         refine AL.rf ?_
         refine AL.ro (rd_pick_f rfl rfl rfl) ?_
         refine AL.r (rd_pick_f rfl rfl rfl) ?_
         refine AL.ra ?_
         refine AL.nil ?_
         change AW _ _ _ _ _
         refine AW.ret ?_
         change ResA _ _ _ _ _
         refine res1 rfl (ResV.tmp rfl) rfl ?_
         (simp_all [rightF, len0] <;> (first | omega | (intros; omega) | (rw [Bool.eq_iff_iff]; simp; omega)))
def idxS (l : List FldD) (r : RefD) : Int := match l.findIdx? (fun f => decide (f.at_ = r)) with | some i => (i : Int) | none => -1
theorem sindex_c (l : List FldD) (r : RefD) (hl : l.length ≤ 9223372036854775000) : AC Try.prog 95 [.sl (l.map FldD.cs), r.av] (fun x => x = .s (AI (idxS l r))) := by
  refine AC.of' 18 2 Try.func95 rfl ?_
  change AW _ _ _ _ [TK.mk 0 .off, TK.mk 0 .off]
  refine AW.seq ?_
  refine AW.region ?_
  refine AL.op rfl (AOpB.op (op_box 0 rfl rfl rfl rfl rfl ?_))
  refine AL.n ?_
  refine AL.ra ?_
  refine AL.nil ?_
  change AW _ _ _ _ _
  refine AW.seq ?_
  refine AW.seq ?_
  refine AW.region ?_
  refine AL.rm ?_
  refine AL.r (rd_len_sl rfl el_42 rfl) ?_
  refine AL.rm ?_
  refine AL.nil ?_
  change AW _ _ _ _ _
  refine AW.block ?_
  refine AW.loopM (ι := Nat) [4, 5, 6, 10, 11, 12, 13, 14, 15, 16, 17, 18, 19] (fun k => [(9, AI (k : Int))]) [1] (fun k => []) (fun k => k ≤ l.length ∧ ∀ i (hi : i < l.length), i < k → decide (l[i].at_ = r) = false) (fun k => l.length - k) 0 (⟨by omega, fun i _ hi => absurd hi (by omega)⟩) (by simp only [anys, upds, offs, List.set_cons_zero, List.set_cons_succ]; repeat (first | exact Wk.nil | refine Wk.same ?_ | refine Wk.any ?_)) (by simp only [anys, upds, offs, List.set_cons_zero, List.set_cons_succ]; repeat (first | exact Sk.nil _ | refine Sk.same _ ?_ | refine Sk.scr _ (by decide) ?_)) ?_
  rintro k gs hJ
  refine AW.norm (by simp only [anys, upds, offs, List.set_cons_zero, List.set_cons_succ]; rfl) (by (try simp only [anys, upds, offs, List.set_cons_zero, List.set_cons_succ]); (try rfl)) ?_
  obtain ⟨hk, hok⟩ := hJ
  refine AW.seq ?_
  refine AW.region ?_
  refine AL.r (rd_bin rfl rfl rfl (fun _ => rfl)) ?_
  refine AL.nil ?_
  change AW _ _ _ _ _
  refine AW.seq ?_
  refine AW.cd rfl (fun h10 => ?_) (fun h10 => ?_)
  ·skip
   refine AW.skip ?_
   change AW _ _ _ _ _
   refine AW.seq ?_
   refine AW.block ?_
   refine AW.seq ?_
   refine AW.region ?_
   refine AL.rm ?_
   refine AL.r (rd_iaddr_sl rfl el_42 rfl rfl rfl (get_mapA (by omega)) rfl) ?_
   refine AL.r (rd_loadN_ep rfl ag_47 rfl (Nat.le_of_ble_eq_true rfl) rfl) ?_
   refine AL.op rfl (AOpB.op (op_alloc 1 rfl ze_47 rfl ?_))
   refine AL.n ?_
   refine AL.ra ?_
   refine AL.op rfl (op_store_ rfl rfl rfl rfl rfl sz_47 ?_)
   refine AL.n ?_
   refine AL.nil ?_
   change AW _ _ _ _ _
   refine AW.seq ?_
   refine AW.region ?_
   refine AL.r (rd_faddr_bx rfl fo_47_0 rfl rfl ⟨_, _, rfl⟩) ?_
   refine AL.r (rd_loadN_bx rfl ag_44 rfl rfl (Nat.le_of_ble_eq_true rfl) rfl) ?_
   refine AL.r (rd_loadN_bx rfl ag_44 rfl rfl (Nat.le_of_ble_eq_true rfl) rfl) ?_
   refine AL.r (rd_eq_Ref rfl rfl rfl) ?_
   refine AL.nil ?_
   change AW _ _ _ _ _
   refine AW.cd rfl (fun h17 => ?_) (fun h17 => ?_)
   ·skip
    refine AW.seq ?_
    refine AW.region ?_
    refine AL.rm ?_
    refine AL.ra ?_
    refine AL.nil ?_
    change AW _ _ _ _ _
    refine AW.ret ?_
    change ResA _ _ _ _ _
    refine res1 rfl (ResV.tmp rfl) rfl ?_
    (unfold idxS; rw [find_some (l := l) (p := fun f => decide (f.at_ = r)) (by omega) hok (decide_eq_true (show l[k].at_ = r from h17))])
   ·skip
    refine AW.skip ?_
    change AW _ _ _ _ _
    refine AW.region ?_
    refine AL.r (rd_arith_add rfl rfl rfl (by first | exact IntWalk.i64_in _ (by omega) | rfl)) ?_
    refine AL.rm ?_
    refine AL.nil ?_
    refine ⟨k + 1, ?_, by first | omega | (simp only []; omega), ?_, ?_⟩
    ·exact ⟨by omega, all_nextL (p := fun (y : FldD) => decide (y.at_ = r) = false) (by omega) hok (decide_eq_false (show ¬ l[k].at_ = r from h17))⟩
    ·simp only [anys, upds, offs, List.set_cons_zero, List.set_cons_succ]; repeat (first | exact Wk.nil | refine Wk.same ?_ | refine Wk.any ?_)
    ·simp only [anys, upds, offs, List.set_cons_zero, List.set_cons_succ]; repeat (first | exact Sk.nil _ | refine Sk.same _ ?_ | refine Sk.scr _ (by decide) ?_)
  ·skip
   refine AW.exit ?_
   change AW _ _ _ _ _
   refine AW.seq ?_
   refine AW.region ?_
   refine AL.ra ?_
   refine AL.nil ?_
   change AW _ _ _ _ _
   refine AW.ret ?_
   change ResA _ _ _ _ _
   refine res1 rfl (ResV.tmp rfl) rfl ?_
   (unfold idxS; rw [find_none (fun i hi => hok i hi (by omega))])
theorem rat_c (l : List FldD) (r : RefD) (hl : l.length ≤ 9223372036854775000) : AC Try.prog 115 [.sl (l.map FldD.cs), r.av] (fun x => x = .s (AI (idxS l r))) := by
  refine AC.of' 18 1 Try.func115 rfl ?_
  change AW _ _ _ _ [TK.mk 0 .off]
  refine AW.seq ?_
  refine AW.region ?_
  refine AL.op rfl (AOpB.op (op_box 0 rfl rfl rfl rfl rfl ?_))
  refine AL.n ?_
  refine AL.ra ?_
  refine AL.nil ?_
  change AW _ _ _ _ _
  refine AW.seq ?_
  refine AW.seq ?_
  refine AW.region ?_
  refine AL.ra ?_
  refine AL.nil ?_
  change AW _ _ _ _ _
  refine AW.block ?_
  refine AW.loopM (ι := Nat) [4, 6, 7, 8, 9, 10, 11, 12, 13, 14, 15, 16, 17, 18, 19] (fun k => [(5, AI (k : Int))]) [] (fun k => []) (fun k => k ≤ l.length ∧ ∀ i (hi : i < l.length), i < k → decide (l[i].at_ = r) = false) (fun k => l.length - k) 0 (⟨by omega, fun i _ hi => absurd hi (by omega)⟩) (by simp only [anys, upds, offs, List.set_cons_zero, List.set_cons_succ]; repeat (first | exact Wk.nil | refine Wk.same ?_ | refine Wk.any ?_)) (by simp only [anys, upds, offs, List.set_cons_zero, List.set_cons_succ]; repeat (first | exact Sk.nil _ | refine Sk.same _ ?_ | refine Sk.scr _ (by decide) ?_)) ?_
  rintro k gs hJ
  refine AW.norm (by simp only [anys, upds, offs, List.set_cons_zero, List.set_cons_succ]; rfl) (by (try simp only [anys, upds, offs, List.set_cons_zero, List.set_cons_succ]); (try rfl)) ?_
  obtain ⟨hk, hok⟩ := hJ
  refine AW.seq ?_
  refine AW.seq ?_
  refine AW.region ?_
  refine AL.rm ?_
  refine AL.rm ?_
  refine AL.r (rd_len_sl rfl el_42 rfl) ?_
  refine AL.r (rd_bin rfl rfl rfl (fun _ => rfl)) ?_
  refine AL.nil ?_
  change AW _ _ _ _ _
  refine AW.cd rfl (fun h9 => ?_) (fun h9 => ?_)
  ·skip
   refine AW.skip ?_
   change AW _ _ _ _ _
   refine AW.seq ?_
   refine AW.block ?_
   refine AW.seq ?_
   refine AW.draw (by kernel_rfl) ?_
   refine AD.r 0 rfl (rd_move rfl rfl) rfl ?_
   refine AD.r 1 rfl (rd_move rfl rfl) rfl ?_
   refine AD.r 2 rfl (rd_iaddr_sl rfl el_42 rfl rfl rfl (get_mapA (by omega)) rfl) rfl ?_
   refine AD.r 3 rfl (rd_faddr_ep rfl fo_47_0 rfl) rfl ?_
   refine AD.r 4 rfl (rd_loadN_ep rfl ag_44 rfl (Nat.le_of_ble_eq_true rfl) rfl) rfl ?_
   refine AD.r 5 rfl (rd_loadN_bx rfl ag_44 rfl rfl (Nat.le_of_ble_eq_true rfl) rfl) rfl ?_
   refine AD.r 6 rfl (rd_eq_Ref rfl rfl rfl) rfl ?_
   refine AD.done (by kernel_rfl) ?_
   change AW _ _ _ _ _
   refine AW.cd rfl (fun h18 => ?_) (fun h18 => ?_)
   ·skip
    refine AW.seq ?_
    refine AW.region ?_
    refine AL.rm ?_
    refine AL.ra ?_
    refine AL.nil ?_
    change AW _ _ _ _ _
    refine AW.ret ?_
    change ResA _ _ _ _ _
    refine res1 rfl (ResV.tmp rfl) rfl ?_
    (unfold idxS; rw [find_some (l := l) (p := fun f => decide (f.at_ = r)) (by omega) hok (decide_eq_true (show l[k].at_ = r from h18))])
   ·skip
    refine AW.skip ?_
    change AW _ _ _ _ _
    refine AW.region ?_
    refine AL.rm ?_
    refine AL.r (rd_arith_add rfl rfl rfl (by first | exact IntWalk.i64_in _ (by omega) | rfl)) ?_
    refine AL.ra ?_
    refine AL.nil ?_
    refine ⟨k + 1, ?_, by first | omega | (simp only []; omega), ?_, ?_⟩
    ·exact ⟨by omega, all_nextL (p := fun (y : FldD) => decide (y.at_ = r) = false) (by omega) hok (decide_eq_false (show ¬ l[k].at_ = r from h18))⟩
    ·simp only [anys, upds, offs, List.set_cons_zero, List.set_cons_succ]; repeat (first | exact Wk.nil | refine Wk.same ?_ | refine Wk.any ?_)
    ·simp only [anys, upds, offs, List.set_cons_zero, List.set_cons_succ]; repeat (first | exact Sk.nil _ | refine Sk.same _ ?_ | refine Sk.scr _ (by decide) ?_)
  ·skip
   refine AW.exit ?_
   change AW _ _ _ _ _
   refine AW.seq ?_
   refine AW.region ?_
   refine AL.ra ?_
   refine AL.nil ?_
   change AW _ _ _ _ _
   refine AW.ret ?_
   change ResA _ _ _ _ _
   refine res1 rfl (ResV.tmp rfl) rfl ?_
   (unfold idxS; rw [find_none (fun i hi => hok i hi (by omega))])
theorem ssame_c (l m : List FldD) (hl : l.length ≤ 9223372036854775000) : AC Try.prog 39 [.sl (l.map FldD.cs), .sl (m.map FldD.cs)] (fun x => x = .s (AB (decide (l = m)))) := by
  refine AC.of' 25 0 Try.func39 rfl ?_
  change AW _ _ _ _ []
  refine AW.seq ?_
  refine AW.region ?_
  refine AL.ra ?_
  refine AL.nil ?_
  change AW _ _ _ _ _
  refine AW.seq ?_
  refine AW.seq ?_
  refine AW.region ?_
  refine AL.rm ?_
  refine AL.r (rd_len_sl rfl el_42 rfl) ?_
  refine AL.rm ?_
  refine AL.r (rd_len_sl rfl el_42 rfl) ?_
  refine AL.r (rd_bin rfl rfl rfl (fun _ => rfl)) ?_
  refine AL.nil ?_
  change AW _ _ _ _ _
  refine AW.cd rfl (fun h10 => ?_) (fun h10 => ?_)
  ·skip
   refine AW.seq ?_
   refine AW.region ?_
   refine AL.ra ?_
   refine AL.nil ?_
   change AW _ _ _ _ _
   refine AW.ret ?_
   change ResA _ _ _ _ _
   refine res1 rfl (ResV.tmp rfl) rfl ?_
   rw [decide_eq_false (fun e => by subst e; simp at h10)]
  ·skip
   refine AW.skip ?_
   change AW _ _ _ _ _
   refine AW.seq ?_
   refine AW.seq ?_
   refine AW.region ?_
   refine AL.rm ?_
   refine AL.r (rd_len_sl rfl el_42 rfl) ?_
   refine AL.rm ?_
   refine AL.nil ?_
   change AW _ _ _ _ _
   refine AW.block ?_
   refine AW.loopM (ι := Nat) [4, 5, 14, 15, 16, 17, 18, 19, 20, 21, 22, 23, 24, 25, 26] (fun k => [(13, AI (k : Int))]) [] (fun k => []) (fun k => k ≤ l.length ∧ l.take k = m.take k) (fun k => l.length - k) 0 (⟨by omega, rfl⟩) (by simp only [anys, upds, offs, List.set_cons_zero, List.set_cons_succ]; repeat (first | exact Wk.nil | refine Wk.same ?_ | refine Wk.any ?_)) (by simp only [anys, upds, offs, List.set_cons_zero, List.set_cons_succ]; repeat (first | exact Sk.nil _ | refine Sk.same _ ?_ | refine Sk.scr _ (by decide) ?_)) ?_
   rintro k gs hJ
   refine AW.norm (by simp only [anys, upds, offs, List.set_cons_zero, List.set_cons_succ]; rfl) (by (try simp only [anys, upds, offs, List.set_cons_zero, List.set_cons_succ]); (try rfl)) ?_
   obtain ⟨hk, hok⟩ := hJ
   refine AW.seq ?_
   refine AW.region ?_
   refine AL.r (rd_bin rfl rfl rfl (fun _ => rfl)) ?_
   refine AL.nil ?_
   change AW _ _ _ _ _
   refine AW.seq ?_
   refine AW.cd rfl (fun h14 => ?_) (fun h14 => ?_)
   ·skip
    refine AW.skip ?_
    change AW _ _ _ _ _
    refine AW.seq ?_
    refine AW.block ?_
    refine AW.seq ?_
    refine AW.region ?_
    refine AL.rm ?_
    refine AL.ra ?_
    refine AL.nil ?_
    change AW _ _ _ _ _
    refine AW.seq ?_
    refine AW.draw (by kernel_rfl) ?_
    refine AD.r 0 rfl (rd_move rfl rfl) rfl ?_
    refine AD.r 1 rfl (rd_move rfl rfl) rfl ?_
    refine AD.r 2 rfl (rd_iaddr_sl rfl el_42 rfl rfl rfl (get_mapA (by omega)) rfl) rfl ?_
    refine AD.r 3 rfl (rd_loadN_ep rfl ag_47 rfl (Nat.le_of_ble_eq_true rfl) rfl) rfl ?_
    refine AD.r 4 rfl (rd_move rfl rfl) rfl ?_
    refine AD.r 5 rfl (rd_move rfl rfl) rfl ?_
    refine AD.r 6 rfl (rd_iaddr_sl rfl el_42 rfl rfl rfl (get_mapA (by omega)) rfl) rfl ?_
    refine AD.r 7 rfl (rd_loadN_ep rfl ag_47 rfl (Nat.le_of_ble_eq_true rfl) rfl) rfl ?_
    refine AD.move 8 rfl (by kernel_rfl) rfl (op_call (same_c (l[k]'(by omega)) (m[k]'(by omega))) rfl (by kernel_rfl) rfl (none) ?_)
    rintro r rfl
    refine AD.n ?_
    refine AD.r 9 rfl (rd_un rfl rfl (fun _ => rfl)) rfl ?_
    refine AD.done (by kernel_rfl) ?_
    change AW _ _ _ _ _
    refine AW.cd rfl (fun h25 => ?_) (fun h25 => ?_)
    ·skip
     refine AW.seq ?_
     refine AW.region ?_
     refine AL.ra ?_
     refine AL.nil ?_
     change AW _ _ _ _ _
     refine AW.ret ?_
     change ResA _ _ _ _ _
     refine res1 rfl (ResV.tmp rfl) rfl ?_
     rw [decide_eq_false (fun e => by subst e; simp at h25)]
    ·skip
     refine AW.skip ?_
     change AW _ _ _ _ _
     refine AW.region ?_
     refine AL.r (rd_arith_add rfl rfl rfl (by first | exact IntWalk.i64_in _ (by omega) | rfl)) ?_
     refine AL.rm ?_
     refine AL.nil ?_
     refine ⟨k + 1, ?_, by first | omega | (simp only []; omega), ?_, ?_⟩
     ·exact ⟨by omega, take_eq_next (by omega) (by omega) hok (by simpa using h25)⟩
     ·simp only [anys, upds, offs, List.set_cons_zero, List.set_cons_succ]; repeat (first | exact Wk.nil | refine Wk.same ?_ | refine Wk.any ?_)
     ·simp only [anys, upds, offs, List.set_cons_zero, List.set_cons_succ]; repeat (first | exact Sk.nil _ | refine Sk.same _ ?_ | refine Sk.scr _ (by decide) ?_)
   ·skip
    refine AW.exit ?_
    change AW _ _ _ _ _
    refine AW.seq ?_
    refine AW.region ?_
    refine AL.ra ?_
    refine AL.nil ?_
    change AW _ _ _ _ _
    refine AW.ret ?_
    change ResA _ _ _ _ _
    refine res1 rfl (ResV.tmp rfl) rfl ?_
    rw [decide_eq_true (by rw [List.take_of_length_le (by omega), List.take_of_length_le (by omega)] at hok; exact hok)]
theorem rsame14_c (l m : List FldD) (hl : l.length ≤ 9223372036854775000) (hc : ∀ f ∈ l, f.cases.length ≤ 9223372036854775000) : AC Try.prog 25 [.sl (l.map FldD.cs), .sl (m.map FldD.cs)] (fun x => x = .s (AB (decide (l = m)))) := by
  refine AC.of' 25 0 Try.func25 rfl ?_
  change AW _ _ _ _ []
  refine AW.seq ?_
  refine AW.region ?_
  refine AL.ra ?_
  refine AL.nil ?_
  change AW _ _ _ _ _
  refine AW.seq ?_
  refine AW.seq ?_
  refine AW.region ?_
  refine AL.rm ?_
  refine AL.r (rd_len_sl rfl el_42 rfl) ?_
  refine AL.rm ?_
  refine AL.r (rd_len_sl rfl el_42 rfl) ?_
  refine AL.r (rd_bin rfl rfl rfl (fun _ => rfl)) ?_
  refine AL.nil ?_
  change AW _ _ _ _ _
  refine AW.cd rfl (fun h10 => ?_) (fun h10 => ?_)
  ·skip
   refine AW.seq ?_
   refine AW.region ?_
   refine AL.ra ?_
   refine AL.nil ?_
   change AW _ _ _ _ _
   refine AW.ret ?_
   change ResA _ _ _ _ _
   refine res1 rfl (ResV.tmp rfl) rfl ?_
   rw [decide_eq_false (fun e => by subst e; simp at h10)]
  ·skip
   refine AW.skip ?_
   change AW _ _ _ _ _
   refine AW.seq ?_
   refine AW.seq ?_
   refine AW.region ?_
   refine AL.ra ?_
   refine AL.nil ?_
   change AW _ _ _ _ _
   refine AW.block ?_
   refine AW.loopM (ι := Nat) [4, 11, 12, 13, 14, 15, 16, 17, 18, 19, 20, 21, 22, 23, 24, 25, 26] (fun k => [(5, AI (k : Int))]) [] (fun k => []) (fun k => k ≤ l.length ∧ l.take k = m.take k) (fun k => l.length - k) 0 (⟨by omega, rfl⟩) (by simp only [anys, upds, offs, List.set_cons_zero, List.set_cons_succ]; repeat (first | exact Wk.nil | refine Wk.same ?_ | refine Wk.any ?_)) (by simp only [anys, upds, offs, List.set_cons_zero, List.set_cons_succ]; repeat (first | exact Sk.nil _ | refine Sk.same _ ?_ | refine Sk.scr _ (by decide) ?_)) ?_
   rintro k gs hJ
   refine AW.norm (by simp only [anys, upds, offs, List.set_cons_zero, List.set_cons_succ]; rfl) (by (try simp only [anys, upds, offs, List.set_cons_zero, List.set_cons_succ]); (try rfl)) ?_
   obtain ⟨hk, hok⟩ := hJ
   refine AW.seq ?_
   refine AW.seq ?_
   refine AW.region ?_
   refine AL.rm ?_
   refine AL.rm ?_
   refine AL.r (rd_len_sl rfl el_42 rfl) ?_
   refine AL.r (rd_bin rfl rfl rfl (fun _ => rfl)) ?_
   refine AL.nil ?_
   change AW _ _ _ _ _
   refine AW.cd rfl (fun h14 => ?_) (fun h14 => ?_)
   ·skip
    refine AW.skip ?_
    change AW _ _ _ _ _
    refine AW.seq ?_
    refine AW.block ?_
    refine AW.seq ?_
    refine AW.draw (by kernel_rfl) ?_
    refine AD.r 0 rfl (rd_move rfl rfl) rfl ?_
    refine AD.r 1 rfl (rd_move rfl rfl) rfl ?_
    refine AD.r 2 rfl (rd_iaddr_sl rfl el_42 rfl rfl rfl (get_mapA (by omega)) rfl) rfl ?_
    refine AD.r 3 rfl (rd_loadN_ep rfl ag_47 rfl (Nat.le_of_ble_eq_true rfl) rfl) rfl ?_
    refine AD.r 4 rfl (rd_move rfl rfl) rfl ?_
    refine AD.r 5 rfl (rd_move rfl rfl) rfl ?_
    refine AD.r 6 rfl (rd_iaddr_sl rfl el_42 rfl rfl rfl (get_mapA (by omega)) rfl) rfl ?_
    refine AD.r 7 rfl (rd_loadN_ep rfl ag_47 rfl (Nat.le_of_ble_eq_true rfl) rfl) rfl ?_
    refine AD.move 8 rfl (by kernel_rfl) rfl (op_call (rsame_c (l[k]'(by omega)) (m[k]'(by omega)) (hc _ (List.getElem_mem _))) rfl (by kernel_rfl) rfl (none) ?_)
    rintro r rfl
    refine AD.n ?_
    refine AD.r 9 rfl (rd_un rfl rfl (fun _ => rfl)) rfl ?_
    refine AD.done (by kernel_rfl) ?_
    change AW _ _ _ _ _
    refine AW.cd rfl (fun h26 => ?_) (fun h26 => ?_)
    ·skip
     refine AW.seq ?_
     refine AW.region ?_
     refine AL.ra ?_
     refine AL.nil ?_
     change AW _ _ _ _ _
     refine AW.ret ?_
     change ResA _ _ _ _ _
     refine res1 rfl (ResV.tmp rfl) rfl ?_
     rw [decide_eq_false (fun e => by subst e; simp at h26)]
    ·skip
     refine AW.skip ?_
     change AW _ _ _ _ _
     refine AW.region ?_
     refine AL.rm ?_
     refine AL.r (rd_arith_add rfl rfl rfl (by first | exact IntWalk.i64_in _ (by omega) | rfl)) ?_
     refine AL.ra ?_
     refine AL.nil ?_
     refine ⟨k + 1, ?_, by first | omega | (simp only []; omega), ?_, ?_⟩
     ·exact ⟨by omega, take_eq_next (by omega) (by omega) hok (by simpa using h26)⟩
     ·simp only [anys, upds, offs, List.set_cons_zero, List.set_cons_succ]; repeat (first | exact Wk.nil | refine Wk.same ?_ | refine Wk.any ?_)
     ·simp only [anys, upds, offs, List.set_cons_zero, List.set_cons_succ]; repeat (first | exact Sk.nil _ | refine Sk.same _ ?_ | refine Sk.scr _ (by decide) ?_)
   ·skip
    refine AW.exit ?_
    change AW _ _ _ _ _
    refine AW.seq ?_
    refine AW.region ?_
    refine AL.ra ?_
    refine AL.nil ?_
    change AW _ _ _ _ _
    refine AW.ret ?_
    change ResA _ _ _ _ _
    refine res1 rfl (ResV.tmp rfl) rfl ?_
    rw [decide_eq_true (by rw [List.take_of_length_le (by omega), List.take_of_length_le (by omega)] at hok; exact hok)]
end Go.Proofs.Ytdgcbhihmnhnaaa
