/- An op got from bytes: the reference's answer is the program's, plain. Conditions: a format that is one. (Several texts in one.) -/
import Derived.Test.YtfjnkhanndkpfaaThD
import Derived.Test.YtfjnkhanndkpfaaOgC
import Derived.Test.YtfjnkhanndkpfaaThC
import Derived.Test.YtfjnkhanndkpfaaOpH
import Derived.Test.YtfjnkhanndkpfaaOgD
/- An op got from bytes: the reference's answer is the program's, plain. Conditions: a format that is one. -/
namespace Go.Proofs.Ytfjnkhanndkpfaa
set_option linter.unusedSimpArgs false
set_option linter.unusedVariables false
set_option maxRecDepth 100000
set_option maxRecDepth 100000
open Go.RowKit

theorem rightO_kind {o : OpD} (h : rightO o = true) : 1 ≤ o.kind ∧ o.kind ≤ 5 := by
  have : (partsO o).2 = true := by
    unfold rightO at h
    simp only [Bool.and_eq_true] at h
    grind
  unfold partsO at this
  grind
end Go.Proofs.Ytfjnkhanndkpfaa
/- An op got from bytes: the reference's answer is the program's, plain. Conditions: a format that is one. -/
namespace Go.Proofs.Ytfjnkhanndkpfaa
set_option linter.unusedSimpArgs false
set_option linter.unusedVariables false
set_option maxRecDepth 100000
set_option maxRecDepth 100000
open Go.RowKit

def Sim20 (b : List UInt8) (f : Int) (p : OpD × RdrD) : Prop := (get20 b f 0 = if badP p.2 then (zeroO, 0, false) else (p.1, p.2.at_, true)) ∧ (badP p.2 = true → p.1 = zeroO) ∧ (badP p.2 = false → p.2.b = b)
theorem getO_no {r : RdrD} (h : badP (q12 r) = true ∨ rightO (rawO r) = false) : (getO r).1 = zeroO ∧ badP (getO r).2 = true := by
  unfold getO
  by_cases h1 : badP (q12 r) = true
  · rw [if_pos h1]; exact ⟨rfl, h1⟩
  · rw [if_neg h1, if_neg (by rcases h with h | h <;> simp_all)]
    exact ⟨rfl, rfl⟩
theorem sim_no {b : List UInt8} {f : Int} {r : RdrD} (h : badP (q12 r) = true ∨ rightO (rawO r) = false) (hg : get20 b f 0 = (zeroO, 0, false)) : Sim20 b f (getO r) := by
  obtain ⟨a, c⟩ := getO_no h
  refine ⟨?_, fun _ => a, fun h => ?_⟩
  · rw [c, if_pos rfl]; exact hg
  · rw [c] at h; cases h
theorem tags_sim {b : List UInt8} {f : Int} (hf : okF f = true) {r : RdrD} (h : RdG b f r (st8 b f 0 11)) : ∀ k, ((dst8 b f 0 k).2.2 = true → (tagsP k r).1 = (dst8 b f 0 k).1 ∧ RdG b f (tagsP k r).2 (dst8 b f 0 k).2.1) ∧ ((dst8 b f 0 k).2.2 = false → badP (tagsP k r).2 = true)
  | 0 => ⟨fun _ => ⟨rfl, h⟩, fun h => (by cases h)⟩
  | k + 1 => by
    obtain ⟨i1, i2⟩ := tags_sim hf h k
    rw [dst8]
    simp only [Bool.and_eq_true, Bool.and_eq_false_iff]
    cases e : (dst8 b f 0 k).2.2 with
    | false => exact ⟨fun hh => (by cases hh.1), fun _ => bad_tag (i2 e)⟩
    | true =>
      obtain ⟨v, g⟩ := i1 e
      obtain ⟨j1, j2⟩ := rd_tag hf g
      refine ⟨fun hh => ?_, fun hh => hh.elim (fun h => (by cases h)) j2⟩
      obtain ⟨v2, g2⟩ := j1 hh.2
      exact ⟨by rw [tagsP, v, v2], g2⟩

theorem get_sim (b : List UInt8) (f : Int) (hf : okF f = true) : Sim20 b f (getO (newR b f)) := by
  have g0 : RdG b f (newR b f) (st8 b f 0 0) := ⟨rfl, rfl, rfl, by show (!okF f) = false; rw [hf]; rfl⟩
  generalize newR b f = r at g0
  have c11 : badP (q11 r) = true → badP (q12 r) = true := fun h => bad_tags h _
  have c10 : badP (q10 r) = true → badP (q12 r) = true := fun h => c11 ((fun h => bad_count h (by omega)) h)
  have c9 : badP (q9 r) = true → badP (q12 r) = true := fun h => c10 (badt (by omega) h)
  have c8 : badP (q8 r) = true → badP (q12 r) = true := fun h => c9 (bad_flag h)
  have c7 : badP (q7 r) = true → badP (q12 r) = true := fun h => c8 (badn h)
  have c6 : badP (q6 r) = true → badP (q12 r) = true := fun h => c7 (bad_ref h)
  have c5 : badP (q5 r) = true → badP (q12 r) = true := fun h => c6 (badt (by omega) h)
  have c4 : badP (q4 r) = true → badP (q12 r) = true := fun h => c5 (badn h)
  have c3 : badP (q3 r) = true → badP (q12 r) = true := fun h => c4 (badt (by omega) h)
  have c2 : badP (q2 r) = true → badP (q12 r) = true := fun h => c3 (badn h)
  have c1 : badP (q1 r) = true → badP (q12 r) = true := fun h => c2 (bad_tag h)
  have nok : ∀ i, i < 11 → ok8 b f 0 i = false → get20 b f 0 = (zeroO, 0, false) := fun i hi h => get20_no (fun hh => by have := List.all_eq_true.1 hh.1 i (List.mem_range.2 hi); rw [h] at this; cases this)
  have s0 : (ok8 b f 0 0 = true → (rtagP r).1 = (x8 b f 0 0).t ∧ RdG b f (q1 r) (st8 b f 0 1)) ∧ (ok8 b f 0 0 = false → badP (q1 r) = true) := rd_tag hf g0
  cases e0 : ok8 b f 0 0 with
  | false => exact sim_no (.inl (c1 (s0.2 e0))) (nok 0 (by omega) e0)
  | true =>
  obtain ⟨v0, g1⟩ := s0.1 e0
  have s1 : (ok8 b f 0 1 = true → (rtagP (q1 r)).1 = (x8 b f 0 1).t ∧ RdG b f (q2 r) (st8 b f 0 2)) ∧ (ok8 b f 0 1 = false → badP (q2 r) = true) := rd_tag hf g1
  cases e1 : ok8 b f 0 1 with
  | false => exact sim_no (.inl (c2 (s1.2 e1))) (nok 1 (by omega) e1)
  | true =>
  obtain ⟨v1, g2⟩ := s1.1 e1
  have s2 : (ok8 b f 0 2 = true → (numP (q2 r)).1 = (x8 b f 0 2).n ∧ RdG b f (q3 r) (st8 b f 0 3)) ∧ (ok8 b f 0 2 = false → badP (q3 r) = true) := rd_n hf g2
  cases e2 : ok8 b f 0 2 with
  | false => exact sim_no (.inl (c3 (s2.2 e2))) (nok 2 (by omega) e2)
  | true =>
  obtain ⟨v2, g3⟩ := s2.1 e2
  have s3 : (ok8 b f 0 3 = true → (rtextP (q3 r) 12).1 = (x8 b f 0 3).s ∧ RdG b f (q4 r) (st8 b f 0 4)) ∧ (ok8 b f 0 3 = false → badP (q4 r) = true) := rd_s hf g3 (by omega)
  cases e3 : ok8 b f 0 3 with
  | false => exact sim_no (.inl (c4 (s3.2 e3))) (nok 3 (by omega) e3)
  | true =>
  obtain ⟨v3, g4⟩ := s3.1 e3
  have s4 : (ok8 b f 0 4 = true → (numP (q4 r)).1 = (x8 b f 0 4).n ∧ RdG b f (q5 r) (st8 b f 0 5)) ∧ (ok8 b f 0 4 = false → badP (q5 r) = true ∨ (numP (q4 r)).1 < 0 ∨ 5 < (numP (q4 r)).1) := rd_kind hf g4 (by omega)
  cases e4 : ok8 b f 0 4 with
  | false =>
    refine sim_no ?_ (nok 4 (by omega) e4)
    rcases s4.2 e4 with h | h
    · exact .inl (c5 h)
    · exact .inr (Bool.eq_false_iff.2 fun hr => by have h1 : 1 ≤ (numP (q4 r)).1 ∧ (numP (q4 r)).1 ≤ 5 := rightO_kind hr; omega)
  | true =>
  obtain ⟨v4, g5⟩ := s4.1 e4
  have s5 : (ok8 b f 0 5 = true → (rtextP (q5 r) 12).1 = (x8 b f 0 5).s ∧ RdG b f (q6 r) (st8 b f 0 6)) ∧ (ok8 b f 0 5 = false → badP (q6 r) = true) := rd_s hf g5 (by omega)
  cases e5 : ok8 b f 0 5 with
  | false => exact sim_no (.inl (c6 (s5.2 e5))) (nok 5 (by omega) e5)
  | true =>
  obtain ⟨v5, g6⟩ := s5.1 e5
  have s6 : (ok8 b f 0 6 = true → (rrefP (q6 r)).1 = (x8 b f 0 6).r ∧ RdG b f (q7 r) (st8 b f 0 7)) ∧ (ok8 b f 0 6 = false → badP (q7 r) = true) := rd_ref hf g6
  cases e6 : ok8 b f 0 6 with
  | false => exact sim_no (.inl (c7 (s6.2 e6))) (nok 6 (by omega) e6)
  | true =>
  obtain ⟨v6, g7⟩ := s6.1 e6
  have s7 : (ok8 b f 0 7 = true → (numP (q7 r)).1 = (x8 b f 0 7).n ∧ RdG b f (q8 r) (st8 b f 0 8)) ∧ (ok8 b f 0 7 = false → badP (q8 r) = true) := rd_n hf g7
  cases e7 : ok8 b f 0 7 with
  | false => exact sim_no (.inl (c8 (s7.2 e7))) (nok 7 (by omega) e7)
  | true =>
  obtain ⟨v7, g8⟩ := s7.1 e7
  have s8 : (ok8 b f 0 8 = true → (rflagP (q8 r)).1 = (x8 b f 0 8).f ∧ RdG b f (q9 r) (st8 b f 0 9)) ∧ (ok8 b f 0 8 = false → badP (q9 r) = true) := rd_flag hf g8 (st8_nn (by omega) 8)
  cases e8 : ok8 b f 0 8 with
  | false => exact sim_no (.inl (c9 (s8.2 e8))) (nok 8 (by omega) e8)
  | true =>
  obtain ⟨v8, g9⟩ := s8.1 e8
  have s9 : (ok8 b f 0 9 = true → (rtextP (q9 r) 40).1 = (x8 b f 0 9).s ∧ RdG b f (q10 r) (st8 b f 0 10)) ∧ (ok8 b f 0 9 = false → badP (q10 r) = true) := rd_s hf g9 (by omega)
  cases e9 : ok8 b f 0 9 with
  | false => exact sim_no (.inl (c10 (s9.2 e9))) (nok 9 (by omega) e9)
  | true =>
  obtain ⟨v9, g10⟩ := s9.1 e9
  have s10 : (ok8 b f 0 10 = true → (countP (q10 r) 60).1 = (x8 b f 0 10).n ∧ RdG b f (q11 r) (st8 b f 0 11)) ∧ (ok8 b f 0 10 = false → badP (q11 r) = true) := rd_count hf g10 (by omega)
  cases e10 : ok8 b f 0 10 with
  | false => exact sim_no (.inl (c11 (s10.2 e10))) (nok 10 (by omega) e10)
  | true =>
  obtain ⟨v10, g11⟩ := s10.1 e10
  have hq : qn r = dn8 b f 0 := by unfold qn dn8; rw [v10]
  obtain ⟨t1, t2⟩ := tags_sim hf g11 (dn8 b f 0)
  cases e : (dst8 b f 0 (dn8 b f 0)).2.2 with
  | false => exact sim_no (.inl (by unfold q12; rw [hq]; exact t2 e)) (get20_no fun hh => by rw [e] at hh; cases hh.2.1)
  | true =>
  obtain ⟨t3, t4⟩ := t1 e
  have hraw : rawO r = raw20 b f 0 := by unfold rawO raw20; rw [v0, v1, v2, v3, v4, v5, v6, v7, v8, v9, hq, t3]
  have g12 : RdG b f (q12 r) (dst8 b f 0 (dn8 b f 0)).2.1 := by unfold q12; rw [hq]; exact t4
  have hnb := RdG.nb hf g12
  cases er : rightO (raw20 b f 0) with
  | false => exact sim_no (.inr (by rw [hraw]; exact er)) (get20_no fun hh => by rw [er] at hh; cases hh.2.2)
  | true =>
  have hgo : getO r = (rawO r, q12 r) := by
    unfold getO
    rw [hnb, if_neg (by decide), if_pos (by rw [hraw]; exact er)]
  have hall : (List.range 11).all (ok8 b f 0) = true := by
    rw [List.all_eq_true]
    intro i hi
    have hi := List.mem_range.1 hi
    match i, hi with

    | 0, _ => exact e0
    | 1, _ => exact e1
    | 2, _ => exact e2
    | 3, _ => exact e3
    | 4, _ => exact e4
    | 5, _ => exact e5
    | 6, _ => exact e6
    | 7, _ => exact e7
    | 8, _ => exact e8
    | 9, _ => exact e9
    | 10, _ => exact e10
    | n + 11, h => exact absurd h (by omega)
  refine ⟨?_, fun h => ?_, fun _ => ?_⟩
  · rw [hgo, get20, if_pos ⟨hall, e, er⟩]
    show _ = if badP (q12 r) = true then _ else _
    rw [hnb, if_neg (by decide), hraw, g12.at_]
  · rw [hgo] at h
    rw [show badP (rawO r, q12 r).2 = false from hnb] at h; cases h
  · rw [hgo]; exact g12.b
end Go.Proofs.Ytfjnkhanndkpfaa
/- Two ops the same, by the reference, walked. Conditions: none. -/
namespace Go.Proofs.Ytfjnkhanndkpfaa
set_option linter.unusedSimpArgs false
set_option linter.unusedVariables false
set_option maxRecDepth 100000
set_option maxRecDepth 100000
open Go.RowKit

theorem rsametags_c (l m : List TagD) : AC Try.prog 86 [.sl (l.map TagD.cs), .sl (m.map TagD.cs)] (fun x => x = .s (AB (decide (l = m)))) := by
  refine AC.of' 24 0 Try.func86 rfl ?_
  change AW _ _ _ _ []
  refine AW.seq ?_
  refine AW.region ?_
  refine AL.ra ?_
  refine AL.nil ?_
  change AW _ _ _ _ _
  refine AW.seq ?_
  refine AW.seq ?_
  refine AW.region ?_
  refine AL.len (x := .tmp 0) rfl (fun hlen => ?_); rw [List.length_map] at hlen; unfold maxLen at hlen
  refine AL.rm ?_
  refine AL.r (rd_len_sl rfl el_45 rfl) ?_
  refine AL.rm ?_
  refine AL.r (rd_len_sl rfl el_45 rfl) ?_
  refine AL.r (rd_bin rfl rfl rfl (fun _ => rfl)) ?_
  refine AL.nil ?_
  change AW _ _ _ _ _
  refine AW.cd rfl (fun h10 => ?_) (fun h10 => ?_)
  ·skip
   refine AW.seq ?_
   refine AW.region ?_
   refine AL.ra ?_
   refine AL.nil ?_
   change AW _ _ _ _ _
   refine AW.ret ?_
   change ResA _ _ _ _ _
   refine res1 rfl (ResV.tmp rfl) rfl ?_
   (first | (rw [decide_eq_false (fun e => by subst e; simp_all)]; done) | (rw [decide_eq_true (by rw [List.take_of_length_le (by omega), List.take_of_length_le (by omega)] at hok; exact hok)]; done) | grind)
  ·skip
   refine AW.skip ?_
   change AW _ _ _ _ _
   refine AW.seq ?_
   refine AW.seq ?_
   refine AW.region ?_
   refine AL.ra ?_
   refine AL.nil ?_
   change AW _ _ _ _ _
   refine AW.block ?_
   refine AW.loopM (ι := Nat) [4, 11, 12, 13, 14, 15, 16, 17, 18, 19, 20, 21, 22, 23, 24, 25] (fun k => [(5, AI (k : Int))]) [] (fun k => []) (fun k => k ≤ l.length ∧ l.take k = m.take k) (fun k => l.length - k) 0 (⟨by omega, rfl⟩) (by simp only [anys, upds, offs, List.set_cons_zero, List.set_cons_succ]; repeat (first | exact Wk.nil | refine Wk.same ?_ | refine Wk.any ?_)) (by simp only [anys, upds, offs, List.set_cons_zero, List.set_cons_succ]; repeat (first | exact Sk.nil _ | refine Sk.same _ ?_ | refine Sk.scr _ (by decide) ?_)) ?_
   rintro k gs hJ
   refine AW.norm (by simp only [anys, upds, offs, List.set_cons_zero, List.set_cons_succ]; rfl) (by (try simp only [anys, upds, offs, List.set_cons_zero, List.set_cons_succ]); (try rfl)) ?_
   obtain ⟨hk, hok⟩ := hJ
   refine AW.seq ?_
   refine AW.seq ?_
   refine AW.region ?_
   refine AL.rm ?_
   refine AL.rm ?_
   refine AL.r (rd_len_sl rfl el_45 rfl) ?_
   refine AL.r (rd_bin rfl rfl rfl (fun _ => rfl)) ?_
   refine AL.nil ?_
   change AW _ _ _ _ _
   refine AW.cd rfl (fun h14 => ?_) (fun h14 => ?_)
   ·skip
    refine AW.skip ?_
    change AW _ _ _ _ _
    refine AW.seq ?_
    refine AW.block ?_
    refine AW.seq ?_
    refine AW.draw (by kernel_rfl) ?_
    refine AD.r 0 rfl (rd_move rfl rfl) rfl ?_
    refine AD.r 1 rfl (rd_move rfl rfl) rfl ?_
    refine AD.r 2 rfl (rd_iaddr_sl rfl el_45 rfl rfl rfl (get_mapA (by omega)) rfl) rfl ?_
    refine AD.r 3 rfl (rd_loadN_ep rfl ag_44 rfl (Nat.le_of_ble_eq_true rfl) rfl) rfl ?_
    refine AD.r 4 rfl (rd_move rfl rfl) rfl ?_
    refine AD.r 5 rfl (rd_move rfl rfl) rfl ?_
    refine AD.r 6 rfl (rd_iaddr_sl rfl el_45 rfl rfl rfl (get_mapA (by omega)) rfl) rfl ?_
    refine AD.r 7 rfl (rd_loadN_ep rfl ag_44 rfl (Nat.le_of_ble_eq_true rfl) rfl) rfl ?_
    refine AD.r 8 rfl (rd_ne_Tag rfl rfl rfl) rfl ?_
    refine AD.done (by kernel_rfl) ?_
    change AW _ _ _ _ _
    refine AW.cd rfl (fun h25 => ?_) (fun h25 => ?_)
    ·skip
     refine AW.seq ?_
     refine AW.region ?_
     refine AL.ra ?_
     refine AL.nil ?_
     change AW _ _ _ _ _
     refine AW.ret ?_
     change ResA _ _ _ _ _
     refine res1 rfl (ResV.tmp rfl) rfl ?_
     (first | (rw [decide_eq_false (fun e => by subst e; simp_all)]; done) | (rw [decide_eq_true (by rw [List.take_of_length_le (by omega), List.take_of_length_le (by omega)] at hok; exact hok)]; done) | grind)
    ·skip
     refine AW.skip ?_
     change AW _ _ _ _ _
     refine AW.region ?_
     refine AL.rm ?_
     refine AL.r (rd_arith_add rfl rfl rfl (by first | exact IntWalk.i64_in _ (by omega) | rfl)) ?_
     refine AL.ra ?_
     refine AL.nil ?_
     refine ⟨k + 1, ?_, by first | omega | (simp only []; omega), ?_, ?_⟩
     ·exact ⟨by omega, take_eq_next (by omega) (by omega) hok (by grind [tagD_iff])⟩
     ·simp only [anys, upds, offs, List.set_cons_zero, List.set_cons_succ]; repeat (first | exact Wk.nil | refine Wk.same ?_ | refine Wk.any ?_)
     ·simp only [anys, upds, offs, List.set_cons_zero, List.set_cons_succ]; repeat (first | exact Sk.nil _ | refine Sk.same _ ?_ | refine Sk.scr _ (by decide) ?_)
   ·skip
    refine AW.exit ?_
    change AW _ _ _ _ _
    refine AW.seq ?_
    refine AW.region ?_
    refine AL.ra ?_
    refine AL.nil ?_
    change AW _ _ _ _ _
    refine AW.ret ?_
    change ResA _ _ _ _ _
    refine res1 rfl (ResV.tmp rfl) rfl ?_
    (first | (rw [decide_eq_false (fun e => by subst e; simp_all)]; done) | (rw [decide_eq_true (by rw [List.take_of_length_le (by omega), List.take_of_length_le (by omega)] at hok; exact hok)]; done) | grind)
theorem rsame20_c (a b : OpD) : AC Try.prog 39 [a.av, b.av] (fun r => r = .s (AB (decide (a = b)))) := by
  refine AC.of' 78 2 Try.func39 rfl ?_
  change AW _ _ _ _ [TK.mk 0 .off, TK.mk 0 .off]
  refine AW.seq ?_
  refine AW.region ?_
  refine AL.op rfl (AOpB.op (op_box 0 rfl rfl rfl rfl rfl ?_))
  refine AL.n ?_
  refine AL.op rfl (AOpB.op (op_box 1 rfl rfl rfl rfl rfl ?_))
  refine AL.n ?_
  refine AL.ra ?_
  refine AL.nil ?_
  change AW _ _ _ _ _
  refine AW.seq ?_
  refine AW.region ?_
  refine AL.r (rd_faddr_bx rfl fo_47_0 rfl rfl ⟨_, _, rfl⟩) ?_
  refine AL.r (rd_loadN_bx rfl ag_44 rfl rfl (Nat.le_of_ble_eq_true rfl) rfl) ?_
  refine AL.r (rd_faddr_bx rfl fo_47_0 rfl rfl ⟨_, _, rfl⟩) ?_
  refine AL.r (rd_loadN_bx rfl ag_44 rfl rfl (Nat.le_of_ble_eq_true rfl) rfl) ?_
  refine AL.r (rd_eq_Tag rfl rfl rfl) ?_
  refine AL.rm ?_
  refine AL.fk (d := 10) rfl (fun h10 => ?_) (fun h10 => ?_)
  ·skip
   refine AL.n ?_
   refine AL.ro (rd_faddr_bx rfl fo_47_1 rfl rfl ⟨_, _, rfl⟩) ?_
   refine AL.ro (rd_loadN_bx rfl ag_44 rfl rfl (Nat.le_of_ble_eq_true rfl) rfl) ?_
   refine AL.ro (rd_faddr_bx rfl fo_47_1 rfl rfl ⟨_, _, rfl⟩) ?_
   refine AL.ro (rd_loadN_bx rfl ag_44 rfl rfl (Nat.le_of_ble_eq_true rfl) rfl) ?_
   refine AL.ro (rd_eq_Tag rfl rfl rfl) ?_
   refine AL.r (rd_pick_t rfl rfl rfl) ?_
   refine AL.rm ?_
   refine AL.fk (d := 17) rfl (fun h17 => ?_) (fun h17 => ?_)
   ·skip
    refine AL.n ?_
    refine AL.ro (rd_faddr_bx rfl fo_47_2 rfl rfl ⟨_, _, rfl⟩) ?_
    refine AL.ro (rd_load_bx rfl ag_2 rfl rfl rfl) ?_
    refine AL.ro (rd_faddr_bx rfl fo_47_2 rfl rfl ⟨_, _, rfl⟩) ?_
    refine AL.ro (rd_load_bx rfl ag_2 rfl rfl rfl) ?_
    refine AL.ro (rd_bin rfl rfl rfl (fun _ => rfl)) ?_
    refine AL.r (rd_pick_t rfl rfl rfl) ?_
    refine AL.rm ?_
    refine AL.fk (d := 24) rfl (fun h24 => ?_) (fun h24 => ?_)
    ·skip
     refine AL.n ?_
     refine AL.ro (rd_faddr_bx rfl fo_47_3 rfl rfl ⟨_, _, rfl⟩) ?_
     refine AL.ro (rd_load_bx rfl ag_9 rfl rfl rfl) ?_
     refine AL.ro (rd_faddr_bx rfl fo_47_3 rfl rfl ⟨_, _, rfl⟩) ?_
     refine AL.ro (rd_load_bx rfl ag_9 rfl rfl rfl) ?_
     refine AL.ro (rd_seq rfl rfl rfl) ?_
     refine AL.r (rd_pick_t rfl rfl rfl) ?_
     refine AL.rm ?_
     refine AL.fk (d := 31) rfl (fun h31 => ?_) (fun h31 => ?_)
     ·skip
      refine AL.n ?_
      refine AL.ro (rd_faddr_bx rfl fo_47_4 rfl rfl ⟨_, _, rfl⟩) ?_
      refine AL.ro (rd_load_bx rfl ag_3 rfl rfl rfl) ?_
      refine AL.ro (rd_faddr_bx rfl fo_47_4 rfl rfl ⟨_, _, rfl⟩) ?_
      refine AL.ro (rd_load_bx rfl ag_3 rfl rfl rfl) ?_
      refine AL.ro (rd_bin rfl rfl rfl (fun _ => rfl)) ?_
      refine AL.r (rd_pick_t rfl rfl rfl) ?_
      refine AL.rm ?_
      refine AL.fk (d := 38) rfl (fun h38 => ?_) (fun h38 => ?_)
      ·skip
       refine AL.n ?_
       refine AL.ro (rd_faddr_bx rfl fo_47_5 rfl rfl ⟨_, _, rfl⟩) ?_
       refine AL.ro (rd_load_bx rfl ag_9 rfl rfl rfl) ?_
       refine AL.ro (rd_faddr_bx rfl fo_47_5 rfl rfl ⟨_, _, rfl⟩) ?_
       refine AL.ro (rd_load_bx rfl ag_9 rfl rfl rfl) ?_
       refine AL.ro (rd_seq rfl rfl rfl) ?_
       refine AL.r (rd_pick_t rfl rfl rfl) ?_
       refine AL.rm ?_
       refine AL.fk (d := 45) rfl (fun h45 => ?_) (fun h45 => ?_)
       ·skip
        refine AL.n ?_
        refine AL.ro (rd_faddr_bx rfl fo_47_6 rfl rfl ⟨_, _, rfl⟩) ?_
        refine AL.ro (rd_loadN_bx rfl ag_27 rfl rfl (Nat.le_of_ble_eq_true rfl) rfl) ?_
        refine AL.ro (rd_faddr_bx rfl fo_47_6 rfl rfl ⟨_, _, rfl⟩) ?_
        refine AL.ro (rd_loadN_bx rfl ag_27 rfl rfl (Nat.le_of_ble_eq_true rfl) rfl) ?_
        refine AL.ro (rd_eq_Ref rfl rfl rfl) ?_
        refine AL.r (rd_pick_t rfl rfl rfl) ?_
        refine AL.rm ?_
        refine AL.fk (d := 52) rfl (fun h52 => ?_) (fun h52 => ?_)
        ·skip
         refine AL.n ?_
         refine AL.ro (rd_faddr_bx rfl fo_47_7 rfl rfl ⟨_, _, rfl⟩) ?_
         refine AL.ro (rd_load_bx rfl ag_2 rfl rfl rfl) ?_
         refine AL.ro (rd_faddr_bx rfl fo_47_7 rfl rfl ⟨_, _, rfl⟩) ?_
         refine AL.ro (rd_load_bx rfl ag_2 rfl rfl rfl) ?_
         refine AL.ro (rd_bin rfl rfl rfl (fun _ => rfl)) ?_
         refine AL.r (rd_pick_t rfl rfl rfl) ?_
         refine AL.rm ?_
         refine AL.fk (d := 59) rfl (fun h59 => ?_) (fun h59 => ?_)
         ·skip
          refine AL.n ?_
          refine AL.ro (rd_faddr_bx rfl fo_47_8 rfl rfl ⟨_, _, rfl⟩) ?_
          refine AL.ro (rd_load_bx rfl ag_4 rfl rfl rfl) ?_
          refine AL.ro (rd_faddr_bx rfl fo_47_8 rfl rfl ⟨_, _, rfl⟩) ?_
          refine AL.ro (rd_load_bx rfl ag_4 rfl rfl rfl) ?_
          refine AL.ro (rd_beql rfl bo_4 rfl rfl) ?_
          refine AL.r (rd_pick_t rfl rfl rfl) ?_
          refine AL.rm ?_
          refine AL.fk (d := 66) rfl (fun h66 => ?_) (fun h66 => ?_)
          ·skip
           refine AL.n ?_
           refine AL.ro (rd_faddr_bx rfl fo_47_9 rfl rfl ⟨_, _, rfl⟩) ?_
           refine AL.ro (rd_load_bx rfl ag_9 rfl rfl rfl) ?_
           refine AL.ro (rd_faddr_bx rfl fo_47_9 rfl rfl ⟨_, _, rfl⟩) ?_
           refine AL.ro (rd_load_bx rfl ag_9 rfl rfl rfl) ?_
           refine AL.ro (rd_seq rfl rfl rfl) ?_
           refine AL.r (rd_pick_t rfl rfl rfl) ?_
           refine AL.rm ?_
           refine AL.fk (d := 73) rfl (fun h73 => ?_) (fun h73 => ?_)
           ·skip
            refine AL.n ?_
            refine AL.ro (rd_faddr_bx rfl fo_47_10 rfl rfl ⟨_, _, rfl⟩) ?_
            refine AL.ro (rd_load_bx rfl ag_45 rfl rfl rfl) ?_
            refine AL.ro (rd_faddr_bx rfl fo_47_10 rfl rfl ⟨_, _, rfl⟩) ?_
            refine AL.ro (rd_load_bx rfl ag_45 rfl rfl rfl) ?_
            refine AL.on rfl rfl rfl (AOpB.op (op_call (rsametags_c a.drops b.drops) rfl (by kernel_rfl) rfl (none) ?_))
            rintro r rfl
            refine AL.n ?_
            refine AL.r (rd_pick_t rfl rfl rfl) ?_
            refine AL.ra ?_
            refine AL.nil ?_
            change AW _ _ _ _ _
            refine AW.ret ?_
            change ResA _ _ _ _ _
            refine res1 rfl (ResV.tmp rfl) rfl ?_
            (refine congrArg (fun b => RS.s (AB b)) ?_; rw [Bool.eq_iff_iff]; simp_all [opD_iff, tagD_iff, refD_iff] <;> (intros; simp_all))
           ·skip
            refine AL.n ?_
            refine AL.rf ?_
            refine AL.rf ?_
            refine AL.rf ?_
            refine AL.rf ?_
            refine AL.rf ?_
            refine AL.r (rd_pick_f rfl rfl rfl) ?_
            refine AL.ra ?_
            refine AL.nil ?_
            change AW _ _ _ _ _
            refine AW.ret ?_
            change ResA _ _ _ _ _
            refine res1 rfl (ResV.tmp rfl) rfl ?_
            (refine congrArg (fun b => RS.s (AB b)) ?_; rw [Bool.eq_iff_iff]; simp_all [opD_iff, tagD_iff, refD_iff] <;> (intros; simp_all))
          ·skip
           refine AL.n ?_
           refine AL.rf ?_
           refine AL.rf ?_
           refine AL.rf ?_
           refine AL.rf ?_
           refine AL.rf ?_
           refine AL.r (rd_pick_f rfl rfl rfl) ?_
           refine AL.rm ?_
           refine AL.rf ?_
           refine AL.rf ?_
           refine AL.rf ?_
           refine AL.rf ?_
           refine AL.rf ?_
           refine AL.r (rd_pick_f rfl rfl rfl) ?_
           refine AL.ra ?_
           refine AL.nil ?_
           change AW _ _ _ _ _
           refine AW.ret ?_
           change ResA _ _ _ _ _
           refine res1 rfl (ResV.tmp rfl) rfl ?_
           (refine congrArg (fun b => RS.s (AB b)) ?_; rw [Bool.eq_iff_iff]; simp_all [opD_iff, tagD_iff, refD_iff] <;> (intros; simp_all))
         ·skip
          refine AL.n ?_
          refine AL.rf ?_
          refine AL.rf ?_
          refine AL.rf ?_
          refine AL.rf ?_
          refine AL.rf ?_
          refine AL.r (rd_pick_f rfl rfl rfl) ?_
          refine AL.rm ?_
          refine AL.rf ?_
          refine AL.rf ?_
          refine AL.rf ?_
          refine AL.rf ?_
          refine AL.rf ?_
          refine AL.r (rd_pick_f rfl rfl rfl) ?_
          refine AL.rm ?_
          refine AL.rf ?_
          refine AL.rf ?_
          refine AL.rf ?_
          refine AL.rf ?_
          refine AL.rf ?_
          refine AL.r (rd_pick_f rfl rfl rfl) ?_
          refine AL.ra ?_
          refine AL.nil ?_
          change AW _ _ _ _ _
          refine AW.ret ?_
          change ResA _ _ _ _ _
          refine res1 rfl (ResV.tmp rfl) rfl ?_
          (refine congrArg (fun b => RS.s (AB b)) ?_; rw [Bool.eq_iff_iff]; simp_all [opD_iff, tagD_iff, refD_iff] <;> (intros; simp_all))
        ·skip
         refine AL.n ?_
         refine AL.rf ?_
         refine AL.rf ?_
         refine AL.rf ?_
         refine AL.rf ?_
         refine AL.rf ?_
         refine AL.r (rd_pick_f rfl rfl rfl) ?_
         refine AL.rm ?_
         refine AL.rf ?_
         refine AL.rf ?_
         refine AL.rf ?_
         refine AL.rf ?_
         refine AL.rf ?_
         refine AL.r (rd_pick_f rfl rfl rfl) ?_
         refine AL.rm ?_
         refine AL.rf ?_
         refine AL.rf ?_
         refine AL.rf ?_
         refine AL.rf ?_
         refine AL.rf ?_
         refine AL.r (rd_pick_f rfl rfl rfl) ?_
         refine AL.rm ?_
         refine AL.rf ?_
         refine AL.rf ?_
         refine AL.rf ?_
         refine AL.rf ?_
         refine AL.rf ?_
         refine AL.r (rd_pick_f rfl rfl rfl) ?_
         refine AL.ra ?_
         refine AL.nil ?_
         change AW _ _ _ _ _
         refine AW.ret ?_
         change ResA _ _ _ _ _
         refine res1 rfl (ResV.tmp rfl) rfl ?_
         (refine congrArg (fun b => RS.s (AB b)) ?_; rw [Bool.eq_iff_iff]; simp_all [opD_iff, tagD_iff, refD_iff] <;> (intros; simp_all))
       ·skip
        refine AL.n ?_
        refine AL.rf ?_
        refine AL.rf ?_
        refine AL.rf ?_
        refine AL.rf ?_
        refine AL.rf ?_
        refine AL.r (rd_pick_f rfl rfl rfl) ?_
        refine AL.rm ?_
        refine AL.rf ?_
        refine AL.rf ?_
        refine AL.rf ?_
        refine AL.rf ?_
        refine AL.rf ?_
        refine AL.r (rd_pick_f rfl rfl rfl) ?_
        refine AL.rm ?_
        refine AL.rf ?_
        refine AL.rf ?_
        refine AL.rf ?_
        refine AL.rf ?_
        refine AL.rf ?_
        refine AL.r (rd_pick_f rfl rfl rfl) ?_
        refine AL.rm ?_
        refine AL.rf ?_
        refine AL.rf ?_
        refine AL.rf ?_
        refine AL.rf ?_
        refine AL.rf ?_
        refine AL.r (rd_pick_f rfl rfl rfl) ?_
        refine AL.rm ?_
        refine AL.rf ?_
        refine AL.rf ?_
        refine AL.rf ?_
        refine AL.rf ?_
        refine AL.rf ?_
        refine AL.r (rd_pick_f rfl rfl rfl) ?_
        refine AL.ra ?_
        refine AL.nil ?_
        change AW _ _ _ _ _
        refine AW.ret ?_
        change ResA _ _ _ _ _
        refine res1 rfl (ResV.tmp rfl) rfl ?_
        (refine congrArg (fun b => RS.s (AB b)) ?_; rw [Bool.eq_iff_iff]; simp_all [opD_iff, tagD_iff, refD_iff] <;> (intros; simp_all))
      ·skip
       refine AL.n ?_
       refine AL.rf ?_
       refine AL.rf ?_
       refine AL.rf ?_
       refine AL.rf ?_
       refine AL.rf ?_
       refine AL.r (rd_pick_f rfl rfl rfl) ?_
       refine AL.rm ?_
       refine AL.rf ?_
       refine AL.rf ?_
       refine AL.rf ?_
       refine AL.rf ?_
       refine AL.rf ?_
       refine AL.r (rd_pick_f rfl rfl rfl) ?_
       refine AL.rm ?_
       refine AL.rf ?_
       refine AL.rf ?_
       refine AL.rf ?_
       refine AL.rf ?_
       refine AL.rf ?_
       refine AL.r (rd_pick_f rfl rfl rfl) ?_
       refine AL.rm ?_
       refine AL.rf ?_
       refine AL.rf ?_
       refine AL.rf ?_
       refine AL.rf ?_
       refine AL.rf ?_
       refine AL.r (rd_pick_f rfl rfl rfl) ?_
       refine AL.rm ?_
       refine AL.rf ?_
       refine AL.rf ?_
       refine AL.rf ?_
       refine AL.rf ?_
       refine AL.rf ?_
       refine AL.r (rd_pick_f rfl rfl rfl) ?_
       refine AL.rm ?_
       refine AL.rf ?_
       refine AL.rf ?_
       refine AL.rf ?_
       refine AL.rf ?_
       refine AL.rf ?_
       refine AL.r (rd_pick_f rfl rfl rfl) ?_
       refine AL.ra ?_
       refine AL.nil ?_
       change AW _ _ _ _ _
       refine AW.ret ?_
       change ResA _ _ _ _ _
       refine res1 rfl (ResV.tmp rfl) rfl ?_
       (refine congrArg (fun b => RS.s (AB b)) ?_; rw [Bool.eq_iff_iff]; simp_all [opD_iff, tagD_iff, refD_iff] <;> (intros; simp_all))
     ·skip
      refine AL.n ?_
      refine AL.rf ?_
      refine AL.rf ?_
      refine AL.rf ?_
      refine AL.rf ?_
      refine AL.rf ?_
      refine AL.r (rd_pick_f rfl rfl rfl) ?_
      refine AL.rm ?_
      refine AL.rf ?_
      refine AL.rf ?_
      refine AL.rf ?_
      refine AL.rf ?_
      refine AL.rf ?_
      refine AL.r (rd_pick_f rfl rfl rfl) ?_
      refine AL.rm ?_
      refine AL.rf ?_
      refine AL.rf ?_
      refine AL.rf ?_
      refine AL.rf ?_
      refine AL.rf ?_
      refine AL.r (rd_pick_f rfl rfl rfl) ?_
      refine AL.rm ?_
      refine AL.rf ?_
      refine AL.rf ?_
      refine AL.rf ?_
      refine AL.rf ?_
      refine AL.rf ?_
      refine AL.r (rd_pick_f rfl rfl rfl) ?_
      refine AL.rm ?_
      refine AL.rf ?_
      refine AL.rf ?_
      refine AL.rf ?_
      refine AL.rf ?_
      refine AL.rf ?_
      refine AL.r (rd_pick_f rfl rfl rfl) ?_
      refine AL.rm ?_
      refine AL.rf ?_
      refine AL.rf ?_
      refine AL.rf ?_
      refine AL.rf ?_
      refine AL.rf ?_
      refine AL.r (rd_pick_f rfl rfl rfl) ?_
      refine AL.rm ?_
      refine AL.rf ?_
      refine AL.rf ?_
      refine AL.rf ?_
      refine AL.rf ?_
      refine AL.rf ?_
      refine AL.r (rd_pick_f rfl rfl rfl) ?_
      refine AL.ra ?_
      refine AL.nil ?_
      change AW _ _ _ _ _
      refine AW.ret ?_
      change ResA _ _ _ _ _
      refine res1 rfl (ResV.tmp rfl) rfl ?_
      (refine congrArg (fun b => RS.s (AB b)) ?_; rw [Bool.eq_iff_iff]; simp_all [opD_iff, tagD_iff, refD_iff] <;> (intros; simp_all))
    ·skip
     refine AL.n ?_
     refine AL.rf ?_
     refine AL.rf ?_
     refine AL.rf ?_
     refine AL.rf ?_
     refine AL.rf ?_
     refine AL.r (rd_pick_f rfl rfl rfl) ?_
     refine AL.rm ?_
     refine AL.rf ?_
     refine AL.rf ?_
     refine AL.rf ?_
     refine AL.rf ?_
     refine AL.rf ?_
     refine AL.r (rd_pick_f rfl rfl rfl) ?_
     refine AL.rm ?_
     refine AL.rf ?_
     refine AL.rf ?_
     refine AL.rf ?_
     refine AL.rf ?_
     refine AL.rf ?_
     refine AL.r (rd_pick_f rfl rfl rfl) ?_
     refine AL.rm ?_
     refine AL.rf ?_
     refine AL.rf ?_
     refine AL.rf ?_
     refine AL.rf ?_
     refine AL.rf ?_
     refine AL.r (rd_pick_f rfl rfl rfl) ?_
     refine AL.rm ?_
     refine AL.rf ?_
     refine AL.rf ?_
     refine AL.rf ?_
     refine AL.rf ?_
     refine AL.rf ?_
     refine AL.r (rd_pick_f rfl rfl rfl) ?_
     refine AL.rm ?_
     refine AL.rf ?_
     refine AL.rf ?_
     refine AL.rf ?_
     refine AL.rf ?_
     refine AL.rf ?_
     refine AL.r (rd_pick_f rfl rfl rfl) ?_
     refine AL.rm ?_
     refine AL.rf ?_
     refine AL.rf ?_
     refine AL.rf ?_
     refine AL.rf ?_
     refine AL.rf ?_
     refine AL.r (rd_pick_f rfl rfl rfl) ?_
     refine AL.rm ?_
     refine AL.rf ?_
     refine AL.rf ?_
     refine AL.rf ?_
     refine AL.rf ?_
     refine AL.rf ?_
     refine AL.r (rd_pick_f rfl rfl rfl) ?_
     refine AL.ra ?_
     refine AL.nil ?_
     change AW _ _ _ _ _
     refine AW.ret ?_
     change ResA _ _ _ _ _
     refine res1 rfl (ResV.tmp rfl) rfl ?_
     (refine congrArg (fun b => RS.s (AB b)) ?_; rw [Bool.eq_iff_iff]; simp_all [opD_iff, tagD_iff, refD_iff] <;> (intros; simp_all))
   ·skip
    refine AL.n ?_
    refine AL.rf ?_
    refine AL.rf ?_
    refine AL.rf ?_
    refine AL.rf ?_
    refine AL.rf ?_
    refine AL.r (rd_pick_f rfl rfl rfl) ?_
    refine AL.rm ?_
    refine AL.rf ?_
    refine AL.rf ?_
    refine AL.rf ?_
    refine AL.rf ?_
    refine AL.rf ?_
    refine AL.r (rd_pick_f rfl rfl rfl) ?_
    refine AL.rm ?_
    refine AL.rf ?_
    refine AL.rf ?_
    refine AL.rf ?_
    refine AL.rf ?_
    refine AL.rf ?_
    refine AL.r (rd_pick_f rfl rfl rfl) ?_
    refine AL.rm ?_
    refine AL.rf ?_
    refine AL.rf ?_
    refine AL.rf ?_
    refine AL.rf ?_
    refine AL.rf ?_
    refine AL.r (rd_pick_f rfl rfl rfl) ?_
    refine AL.rm ?_
    refine AL.rf ?_
    refine AL.rf ?_
    refine AL.rf ?_
    refine AL.rf ?_
    refine AL.rf ?_
    refine AL.r (rd_pick_f rfl rfl rfl) ?_
    refine AL.rm ?_
    refine AL.rf ?_
    refine AL.rf ?_
    refine AL.rf ?_
    refine AL.rf ?_
    refine AL.rf ?_
    refine AL.r (rd_pick_f rfl rfl rfl) ?_
    refine AL.rm ?_
    refine AL.rf ?_
    refine AL.rf ?_
    refine AL.rf ?_
    refine AL.rf ?_
    refine AL.rf ?_
    refine AL.r (rd_pick_f rfl rfl rfl) ?_
    refine AL.rm ?_
    refine AL.rf ?_
    refine AL.rf ?_
    refine AL.rf ?_
    refine AL.rf ?_
    refine AL.rf ?_
    refine AL.r (rd_pick_f rfl rfl rfl) ?_
    refine AL.rm ?_
    refine AL.rf ?_
    refine AL.rf ?_
    refine AL.rf ?_
    refine AL.rf ?_
    refine AL.rf ?_
    refine AL.r (rd_pick_f rfl rfl rfl) ?_
    refine AL.ra ?_
    refine AL.nil ?_
    change AW _ _ _ _ _
    refine AW.ret ?_
    change ResA _ _ _ _ _
    refine res1 rfl (ResV.tmp rfl) rfl ?_
    (refine congrArg (fun b => RS.s (AB b)) ?_; rw [Bool.eq_iff_iff]; simp_all [opD_iff, tagD_iff, refD_iff] <;> (intros; simp_all))
  ·skip
   refine AL.n ?_
   refine AL.rf ?_
   refine AL.rf ?_
   refine AL.rf ?_
   refine AL.rf ?_
   refine AL.rf ?_
   refine AL.r (rd_pick_f rfl rfl rfl) ?_
   refine AL.rm ?_
   refine AL.rf ?_
   refine AL.rf ?_
   refine AL.rf ?_
   refine AL.rf ?_
   refine AL.rf ?_
   refine AL.r (rd_pick_f rfl rfl rfl) ?_
   refine AL.rm ?_
   refine AL.rf ?_
   refine AL.rf ?_
   refine AL.rf ?_
   refine AL.rf ?_
   refine AL.rf ?_
   refine AL.r (rd_pick_f rfl rfl rfl) ?_
   refine AL.rm ?_
   refine AL.rf ?_
   refine AL.rf ?_
   refine AL.rf ?_
   refine AL.rf ?_
   refine AL.rf ?_
   refine AL.r (rd_pick_f rfl rfl rfl) ?_
   refine AL.rm ?_
   refine AL.rf ?_
   refine AL.rf ?_
   refine AL.rf ?_
   refine AL.rf ?_
   refine AL.rf ?_
   refine AL.r (rd_pick_f rfl rfl rfl) ?_
   refine AL.rm ?_
   refine AL.rf ?_
   refine AL.rf ?_
   refine AL.rf ?_
   refine AL.rf ?_
   refine AL.rf ?_
   refine AL.r (rd_pick_f rfl rfl rfl) ?_
   refine AL.rm ?_
   refine AL.rf ?_
   refine AL.rf ?_
   refine AL.rf ?_
   refine AL.rf ?_
   refine AL.rf ?_
   refine AL.r (rd_pick_f rfl rfl rfl) ?_
   refine AL.rm ?_
   refine AL.rf ?_
   refine AL.rf ?_
   refine AL.rf ?_
   refine AL.rf ?_
   refine AL.rf ?_
   refine AL.r (rd_pick_f rfl rfl rfl) ?_
   refine AL.rm ?_
   refine AL.rf ?_
   refine AL.rf ?_
   refine AL.rf ?_
   refine AL.rf ?_
   refine AL.rf ?_
   refine AL.r (rd_pick_f rfl rfl rfl) ?_
   refine AL.rm ?_
   refine AL.rf ?_
   refine AL.rf ?_
   refine AL.rf ?_
   refine AL.rf ?_
   refine AL.rf ?_
   refine AL.r (rd_pick_f rfl rfl rfl) ?_
   refine AL.ra ?_
   refine AL.nil ?_
   change AW _ _ _ _ _
   refine AW.ret ?_
   change ResA _ _ _ _ _
   refine res1 rfl (ResV.tmp rfl) rfl ?_
   (refine congrArg (fun b => RS.s (AB b)) ?_; rw [Bool.eq_iff_iff]; simp_all [opD_iff, tagD_iff, refD_iff] <;> (intros; simp_all))
end Go.Proofs.Ytfjnkhanndkpfaa
/- OpBytes, walked over abstract states. Conditions: none beyond the statement's. -/
namespace Go.Proofs.Ytfjnkhanndkpfaa
set_option linter.unusedSimpArgs false
set_option linter.unusedVariables false
set_option maxRecDepth 100000
set_option maxRecDepth 100000
open Go.RowKit

theorem rd_byr_from {P : Program} {o : Oper} {t : List AV} {st : List TK} {T e : Nat} {x lo : Operand} {l : List UInt8} {m : Nat} {ik : IntKind} {I : Int} (ho : o.op = .slice T x (some lo) none none) (hT : elT P T = some (e, 1)) (hx : evA t x = .sl (byA l)) (hy : evV t lo = some (.int ik I)) (hI : I = (m : Int)) (hm : m ≤ l.length) : ARd P o t st (.sl (byA (l.drop m))) := by
  have := rd_slice_sl (P := P) (st := st) (n := (byA l).length) ho hT hx byA_one ⟨_, _, hy, hI⟩ rfl (by rw [byA_len]; exact hm) (Nat.le_refl _)
  rwa [List.take_of_length_le (Nat.le_refl _), byA_drop] at this
theorem rdP_byr_from {P : Program} {o : Oper} {t : List AV} {st : List TK} {T e : Nat} {x lo : Operand} {l : List UInt8} {m : Nat} {ik : IntKind} {I : Int} (ho : o.op = .slice T x (some lo) none none) (hT : elT P T = some (e, 1)) (hx : evA t x = .sl (byA l)) (hy : evV t lo = some (.int ik I)) (hI : I = (m : Int)) (hm : m ≤ l.length) : ARdP P o t st (.sl (byA (l.drop m))) := by
  have := rdP_slice_sl (P := P) (st := st) (n := (byA l).length) ho hT hx byA_one ⟨_, _, hy, hI⟩ rfl (by rw [byA_len]; exact hm) (Nat.le_refl _)
  rwa [List.take_of_length_le (Nat.le_refl _), byA_drop] at this
theorem oput_9 (f : Int) (o : OpD) (hf : i64R f) (hw : o.Wf) (hl : o.Light) (hok : okF f = true) : AC Try.prog 68 [.sl (byA [9]), .sc (.int .i64 f), o.av] (fun r => r = .s (.sl (byA (9 :: putO f o)))) := by
  have := oput_c [9] f o (by simp) hf hw hl
  rwa [if_pos hok] at this
theorem oput_0 (f : Int) (o : OpD) (hf : i64R f) (hw : o.Wf) (hl : o.Light) (hok : okF f = false) : AC Try.prog 68 [.sl (byA [9]), .sc (.int .i64 f), o.av] (fun r => r = .s (.sl (byA [9]))) := by
  have := oput_c [9] f o (by simp) hf hw hl
  rwa [if_neg (by rw [hok]; decide)] at this
theorem rget_nb (b : List UInt8) (f : Int) (hf : okF f = false) : (getO (newR b f)).1 = zeroO := by
  have h0 : badP (newR b f) = true := by unfold badP newR; rw [hf]; rfl
  have h1 := bad_tag h0
  have h2 := bad_tag h1
  have h3 := badn h2
  have h4 := badt (m := 12) (by omega) h3
  have h5 := badn h4
  have h6 := badt (m := 12) (by omega) h5
  have h7 := bad_ref h6
  have h8 := badn h7
  have h9 := bad_flag h8
  have h10 := badt (m := 40) (by omega) h9
  have h11 := bad_count h10 (most := 60) (by omega)
  exact (getO_no (.inl (bad_tags h11 _))).1
theorem getO_ok {r : RdrD} (h : r.Ok) : (getO r).2.Ok := by
  unfold getO
  split
  · exact (q12_ok h).ok
  · split
    · exact (q12_ok h).ok
    · exact (q12_ok h).ok.spoil.ok
theorem oget_x (g : Nat) (r : RdrD) (h : r.Ok) : ACo Try.prog 67 [.bx 0 g 0] (RdrT g r) (fun y os' => ∃ x : OpD, x = (getO r).1 ∧ y = .ag [AI x.id.rep, AI x.id.n, AI x.schema.rep, AI x.schema.n, AI x.time, AS x.cart, AI x.kind, AS x.item, AI x.at_.scope, AS x.at_.group, AS x.at_.name, AI x.delta, AB x.has, AS x.text, .sl (x.drops.map TagD.cs)] ∧ os' = RdrT g (getO r).2) := (oget_c g r h).mono fun y os' ⟨a, b⟩ => ⟨_, rfl, a, b⟩
theorem roget_x (b : List UInt8) (f at0 : Int) (hb : b.length ≤ 1099511627776) (h0 : 0 ≤ at0) : AC Try.prog 73 [.sl (byA b), .sc (.int .i64 at0), .sc (.int .i64 f)] (fun r => ∃ x : OpD, x = (get20 b f at0).1 ∧ r = .s (.tu [.ag [AI x.id.rep, AI x.id.n, AI x.schema.rep, AI x.schema.n, AI x.time, AS x.cart, AI x.kind, AS x.item, AI x.at_.scope, AS x.at_.group, AS x.at_.name, AI x.delta, AB x.has, AS x.text, .sl (x.drops.map TagD.cs)], AI (get20 b f at0).2.1, AB (get20 b f at0).2.2])) := (roget_c b f at0 hb h0).mono fun r hr => ⟨_, rfl, hr⟩
section
variable {l : List UInt8} {f : Int} (hok : okF f = true)
include hok
theorem sim_ok : (get20 l f 0).2.2 = !badP (getO (newR l f)).2 := by
  obtain ⟨a, b, c⟩ := get_sim l f hok
  rw [a]
  cases badP (getO (newR l f)).2 <;> rfl
theorem sim_ne (h : (get20 l f 0).2.2 = badP (getO (newR l f)).2) : False := by
  rw [sim_ok hok] at h
  cases hb : badP (getO (newR l f)).2 <;> rw [hb] at h <;> cases h
theorem sim_same : (getO (newR l f)).1 = (get20 l f 0).1 := by
  obtain ⟨a, b, c⟩ := get_sim l f hok
  rw [a]
  cases hb : badP (getO (newR l f)).2 with
  | true => rw [if_pos rfl]; exact b hb
  | false => rw [if_neg (by decide)]
theorem sim_left (hl : l.length ≤ 549755813888) (h : (get20 l f 0).2.2 = true) : leftP (getO (newR l f)).2 = (l.length : Int) - (get20 l f 0).2.1 ∧ 0 ≤ (get20 l f 0).2.1 ∧ (get20 l f 0).2.1 ≤ (l.length : Int) := by
  obtain ⟨a, b, c⟩ := get_sim l f hok
  have hb : badP (getO (newR l f)).2 = false := by
    rw [sim_ok hok] at h
    cases hb : badP (getO (newR l f)).2 <;> rw [hb] at h
    cases h
  have h2 := getO_ok (newR_ok hl f)
  have h3 := h2.lo
  have h4 := h2.hi
  have h5 := c hb
  rw [h5] at h4
  rw [a, hb, if_neg (by decide)]
  refine ⟨?_, h3, h4⟩
  unfold leftP
  rw [hb, if_neg (by decide), h5]
theorem get20_rng (hl : l.length ≤ 549755813888) : 0 ≤ (get20 l f 0).2.1 ∧ (get20 l f 0).2.1 ≤ (l.length : Int) := by
  obtain ⟨a, b, c⟩ := get_sim l f hok
  rw [a]
  cases hb : badP (getO (newR l f)).2 with
  | true => rw [if_pos rfl]; exact ⟨Int.le_refl _, by show (0 : Int) ≤ (l.length : Int); omega⟩
  | false =>
    rw [if_neg (by decide)]
    have h2 := getO_ok (newR_ok hl f)
    have h3 := h2.lo
    have h4 := h2.hi
    have h5 := c hb
    rw [h5] at h4
    exact ⟨h3, h4⟩
theorem put_end {o : OpD} (hw : o.Wf) (hl : o.Light) (h : rightO o = true) : (getO (newR (putO f o) f)).1 = o ∧ endP (getO (newR (putO f o) f)).2 = 0 := by
  obtain ⟨a, _⟩ := get_put hok hw hl []
  rw [List.append_nil] at a
  obtain ⟨a1, a2⟩ := a h
  refine ⟨a1, ?_⟩
  unfold endP
  rw [a2.nb, left_at a2]
  simp
end
section
variable (o : OpD) (f : Int) (b : List UInt8) (hw : o.Wf) (hf : i64R f)
include hw hf
set_option maxHeartbeats 8000000 in
theorem bytes_0 (h1 : ¬ f = 1) (h2 : ¬ f = 2) (hok : okF f = false) : AC Try.prog 14 [.ag [AI o.id.rep, AI o.id.n, AI o.schema.rep, AI o.schema.n, AI o.time, AS o.cart, AI o.kind, AS o.item, AI o.at_.scope, AS o.at_.group, AS o.at_.name, AI o.delta, AB o.has, AS o.text, .sl (o.drops.map TagD.cs)], .sc (.int .i64 f), .sl (byA b)] (fun r => r = .s (AB true)) := by
  have hbb := byA_len b
  change AC _ _ [.ag [AI o.id.rep, AI o.id.n, AI o.schema.rep, AI o.schema.n, AI o.time, AS o.cart, AI o.kind, AS o.item, AI o.at_.scope, AS o.at_.group, AS o.at_.name, AI o.delta, AB o.has, AS o.text, .sl (o.drops.map TagD.cs)], .sc (.int .i64 f), .sl (byA b)] _
  refine AC.of' 117 8 Try.func14 rfl ?_
  change AW _ _ _ _ [TK.mk 0 .off, TK.mk 0 .off, TK.mk 0 .off, TK.mk 0 .off, TK.mk 0 .off, TK.mk 0 .off, TK.mk 0 .off, TK.mk 0 .off]
  refine AW.seq ?_
  refine AW.region ?_
  refine AL.op rfl (AOpB.op (op_box 2 rfl rfl rfl rfl rfl ?_))
  refine AL.no ?_
  refine AL.ra ?_
  refine AL.nil ?_
  change AW _ _ _ _ _
  refine AW.seq ?_
  refine AW.seq ?_
  refine AW.region ?_
  refine AL.op rfl (AOpB.op (op_call (awake20) rfl (by kernel_rfl) rfl (none) ?_))
  rintro r rfl
  refine AL.no ?_
  refine AL.r (rd_un rfl rfl (fun _ => rfl)) ?_
  refine AL.nil ?_
  change AW _ _ _ _ _
  refine AW.cond_f rfl ?_
  refine AW.skip ?_
  change AW _ _ _ _ _
  refine AW.seq ?_
  refine AW.seq ?_
  refine AW.region ?_
  refine AL.r (rd_loadN_bx rfl ag_47 rfl rfl (Nat.le_of_ble_eq_true rfl) rfl) ?_
  refine AL.op rfl (AOpB.op (op_call (oheavy_c o) rfl (by kernel_rfl) rfl (none) ?_))
  rintro r rfl
  refine AL.no ?_
  refine AL.rm ?_
  refine AL.fk (d := 21) rfl (fun h21 => ?_) (fun h21 => ?_)
  ·skip
   refine AL.n ?_
   refine AL.rf ?_
   refine AL.rf ?_
   refine AL.rf ?_
   refine AL.r (rd_pick_t rfl rfl rfl) ?_
   refine AL.nil ?_
   change AW _ _ _ _ _
   refine AW.cond_t rfl ?_
   refine AW.seq ?_
   refine AW.region ?_
   refine AL.ra ?_
   refine AL.nil ?_
   change AW _ _ _ _ _
   refine AW.ret ?_
   change ResA _ _ _ _ _
   refine res1 rfl (ResV.tmp rfl) rfl ?_
   rfl
  ·skip
   refine AL.n ?_
   refine AL.ro (rd_move rfl rfl) ?_
   refine AL.ro (rd_len_sl rfl el_83 rfl) ?_
   refine AL.ro (rd_bin rfl rfl rfl (fun _ => rfl)) ?_
   refine AL.r (rd_pick_f rfl rfl rfl) ?_
   refine AL.nil ?_
   change AW _ _ _ _ _
   refine AW.cd rfl (fun h25 => ?_) (fun h25 => ?_)
   ·skip
    refine AW.seq ?_
    refine AW.region ?_
    refine AL.ra ?_
    refine AL.nil ?_
    change AW _ _ _ _ _
    refine AW.ret ?_
    change ResA _ _ _ _ _
    refine res1 rfl (ResV.tmp rfl) rfl ?_
    rfl
   ·skip
    refine AW.skip ?_
    change AW _ _ _ _ _
    refine AW.seq ?_
    refine AW.region ?_
    have hl := heavyO_light (by assumption)
    refine AL.op rfl (AOpB.op (bs_set rfl ap_83 ze_5 rfl rfl ?_))
    refine AL.no ?_
    refine AL.rm ?_
    refine AL.r (rd_loadN_bx rfl ag_47 rfl rfl (Nat.le_of_ble_eq_true rfl) rfl) ?_
    refine AL.op rfl (AOpB.op (op_call (oput_0 f o hf hw hl hok) rfl (by kernel_rfl) rfl (none) ?_))
    rintro r rfl
    refine AL.no ?_
    refine AL.ra ?_
    refine AL.nil ?_
    change AW _ _ _ _ _
    refine AW.seq ?_
    refine AW.seq ?_
    refine AW.region ?_
    refine AL.rm ?_
    refine AL.r (rd_bin rfl rfl rfl (fun _ => rfl)) ?_
    refine AL.rm ?_
    refine AL.fk (d := 32) rfl (fun h32 => ?_) (fun h32 => ?_)
    ·skip
     refine AL.n ?_
     refine AL.ro (rd_move rfl rfl) ?_
     refine AL.ro (rd_bin rfl rfl rfl (fun _ => rfl)) ?_
     refine AL.r (rd_pick_t rfl rfl rfl) ?_
     refine AL.nil ?_
     change AW _ _ _ _ _
     refine AW.cd rfl (fun h35 => ?_) (fun h35 => ?_)
     ·skip
      refine AW.seq ?_
      refine AW.region ?_
      refine AL.rm ?_
      refine AL.r (rd_b2s rfl (by kernel_rfl) (src_s rfl)) ?_
      refine AL.r (rd_seq rfl rfl rfl) ?_
      refine AL.rm ?_
      refine AL.fk (d := 39) rfl (fun h39 => ?_) (fun h39 => ?_)
      ·skip
       refine AL.n ?_
       refine AL.ro (rd_move rfl rfl) ?_
       refine AL.ro (rd_move rfl rfl) ?_
       refine AL.on rfl rfl rfl (calloR (rnew_c b (by omega) f 0) [0] ?_)
       rintro y os' ⟨rfl, rfl⟩
       refine AL.noR ?_
       refine AL.on rfl rfl rfl (calloR (oget_x 1 (newR b f) (newR_ok (by omega) f)) [0] ?_)
       rintro y os' ⟨x1, hx1, rfl, rfl⟩
       refine AL.noR ?_
       refine AL.ro (rd_build rfl pl_47 ze_47 rfl rfl) ?_
       refine AL.on rfl rfl rfl (AOpB.op (op_call (osame_c x1 zeroO) rfl (by kernel_rfl) rfl (none) ?_))
       rintro r rfl
       refine AL.no ?_
       refine AL.r (rd_pick_t rfl rfl rfl) ?_
       refine AL.ra ?_
       refine AL.nil ?_
       change AW _ _ _ _ _
       refine AW.ret ?_
       change ResA _ _ _ _ _
       refine res1 rfl (ResV.tmp rfl) rfl ?_
       rw [decide_eq_true (hx1.trans (rget_nb b f hok))]
      ·skip
       exact absurd trivial h39
     ·skip
      omega
    ·skip
     omega
set_option maxHeartbeats 8000000 in
theorem bytes_1 (h1 : f = 1) (hok : okF f = true) : AC Try.prog 14 [.ag [AI o.id.rep, AI o.id.n, AI o.schema.rep, AI o.schema.n, AI o.time, AS o.cart, AI o.kind, AS o.item, AI o.at_.scope, AS o.at_.group, AS o.at_.name, AI o.delta, AB o.has, AS o.text, .sl (o.drops.map TagD.cs)], .sc (.int .i64 f), .sl (byA b)] (fun r => r = .s (AB true)) := by
  have hbb := byA_len b
  change AC _ _ [.ag [AI o.id.rep, AI o.id.n, AI o.schema.rep, AI o.schema.n, AI o.time, AS o.cart, AI o.kind, AS o.item, AI o.at_.scope, AS o.at_.group, AS o.at_.name, AI o.delta, AB o.has, AS o.text, .sl (o.drops.map TagD.cs)], .sc (.int .i64 f), .sl (byA b)] _
  refine AC.of' 117 9 Try.func14 rfl ?_
  change AW _ _ _ _ [TK.mk 0 .off, TK.mk 0 .off, TK.mk 0 .off, TK.mk 0 .off, TK.mk 0 .off, TK.mk 0 .off, TK.mk 0 .off, TK.mk 0 .off, TK.mk 0 .off]
  refine AW.seq ?_
  refine AW.region ?_
  refine AL.op rfl (AOpB.op (op_box 3 rfl rfl rfl rfl rfl ?_))
  refine AL.no ?_
  refine AL.ra ?_
  refine AL.nil ?_
  change AW _ _ _ _ _
  refine AW.seq ?_
  refine AW.seq ?_
  refine AW.region ?_
  refine AL.op rfl (AOpB.op (op_call (awake20) rfl (by kernel_rfl) rfl (none) ?_))
  rintro r rfl
  refine AL.no ?_
  refine AL.r (rd_un rfl rfl (fun _ => rfl)) ?_
  refine AL.nil ?_
  change AW _ _ _ _ _
  refine AW.cond_f rfl ?_
  refine AW.skip ?_
  change AW _ _ _ _ _
  refine AW.seq ?_
  refine AW.seq ?_
  refine AW.region ?_
  refine AL.r (rd_loadN_bx rfl ag_47 rfl rfl (Nat.le_of_ble_eq_true rfl) rfl) ?_
  refine AL.op rfl (AOpB.op (op_call (oheavy_c o) rfl (by kernel_rfl) rfl (none) ?_))
  rintro r rfl
  refine AL.no ?_
  refine AL.rm ?_
  refine AL.fk (d := 21) rfl (fun h21 => ?_) (fun h21 => ?_)
  ·skip
   refine AL.n ?_
   refine AL.rf ?_
   refine AL.rf ?_
   refine AL.rf ?_
   refine AL.r (rd_pick_t rfl rfl rfl) ?_
   refine AL.nil ?_
   change AW _ _ _ _ _
   refine AW.cond_t rfl ?_
   refine AW.seq ?_
   refine AW.region ?_
   refine AL.ra ?_
   refine AL.nil ?_
   change AW _ _ _ _ _
   refine AW.ret ?_
   change ResA _ _ _ _ _
   refine res1 rfl (ResV.tmp rfl) rfl ?_
   rfl
  ·skip
   refine AL.n ?_
   refine AL.ro (rd_move rfl rfl) ?_
   refine AL.ro (rd_len_sl rfl el_83 rfl) ?_
   refine AL.ro (rd_bin rfl rfl rfl (fun _ => rfl)) ?_
   refine AL.r (rd_pick_f rfl rfl rfl) ?_
   refine AL.nil ?_
   change AW _ _ _ _ _
   refine AW.cd rfl (fun h25 => ?_) (fun h25 => ?_)
   ·skip
    refine AW.seq ?_
    refine AW.region ?_
    refine AL.ra ?_
    refine AL.nil ?_
    change AW _ _ _ _ _
    refine AW.ret ?_
    change ResA _ _ _ _ _
    refine res1 rfl (ResV.tmp rfl) rfl ?_
    rfl
   ·skip
    refine AW.skip ?_
    change AW _ _ _ _ _
    refine AW.seq ?_
    refine AW.region ?_
    have hl := heavyO_light (by assumption); have hpl := putO_len (f := f) hl
    refine AL.op rfl (AOpB.op (bs_set rfl ap_83 ze_5 rfl rfl ?_))
    refine AL.no ?_
    refine AL.rm ?_
    refine AL.r (rd_loadN_bx rfl ag_47 rfl rfl (Nat.le_of_ble_eq_true rfl) rfl) ?_
    refine AL.op rfl (AOpB.op (op_call (oput_9 f o hf hw hl hok) rfl (by kernel_rfl) rfl (none) ?_))
    rintro r rfl
    refine AL.no ?_
    refine AL.ra ?_
    refine AL.nil ?_
    change AW _ _ _ _ _
    refine AW.seq ?_
    refine AW.seq ?_
    refine AW.region ?_
    refine AL.rm ?_
    refine AL.r (rd_bin rfl rfl rfl (fun _ => rfl)) ?_
    refine AL.rm ?_
    refine AL.fk (d := 32) rfl (fun h32 => ?_) (fun h32 => ?_)
    ·skip
     omega
    ·skip
     refine AL.n ?_
     refine AL.rf ?_
     refine AL.rf ?_
     refine AL.r (rd_pick_f rfl rfl rfl) ?_
     refine AL.nil ?_
     change AW _ _ _ _ _
     refine AW.cond_f rfl ?_
     refine AW.skip ?_
     change AW _ _ _ _ _
     refine AW.seq ?_
     refine AW.region ?_
     refine AL.rm ?_
     refine AL.r (rd_byr_from rfl el_83 rfl rfl (m := 1) rfl (by simp)) ?_
     refine AL.rm ?_
     refine AL.op rfl (calloR (rnew_c (putO f o) (by omega) f 0) [0] ?_)
     rintro y os' ⟨rfl, rfl⟩
     refine AL.noR ?_
     refine AL.ra ?_
     refine AL.nil ?_
     change AW _ _ _ _ _
     refine AW.seq ?_
     refine AW.region ?_
     refine AL.rm ?_
     refine AL.op rfl (calloR (oget_x 1 (newR (putO f o) f) (newR_ok (by omega) f)) [0] ?_)
     rintro y os' ⟨x2, hx2, rfl, rfl⟩
     refine AL.noR ?_
     refine AL.op rfl (AOpB.op (op_alloc 5 rfl ze_47 rfl ?_))
     refine AL.no ?_
     refine AL.op rfl (op_store_ rfl rfl rfl rfl rfl sz_47 ?_)
     refine AL.no ?_
     refine AL.nil ?_
     change AW _ _ _ _ _
     refine AW.join (ι := Unit) [6, 53, 54, 55, 56, 57, 58, 59, 60, 61, 62, 63, 64, 65, 66, 67, 68, 69, 70, 71, 72, 73, 74, 75] (fun u75 => []) [] (fun u75 => []) (fun u75 => True) ?_ ?_
     ·skip
      refine AW.seq ?_
      refine AW.drawA (by kernel_rfl) ?_
      refine ADA.r 0 rfl (ARdP.a (rdP_move rfl rfl)) rfl ?_
      refine ADA.r 1 rfl (ARdP.a (rdP_byr_from rfl el_83 rfl rfl (m := 1) rfl (by simp))) rfl ?_
      refine ADA.r 2 rfl (rdA_b2s rfl (by kernel_rfl) rfl) rfl ?_
      refine ADA.r 3 rfl (ARdP.a (rdP_move rfl rfl)) rfl ?_
      refine ADA.b ?_
      refine ADB.mv 4 rfl (AOpB.op (ARd.opB (rd_loadN_bx rfl ag_47 rfl rfl (Nat.le_of_ble_eq_true rfl) rfl) ?_))
      refine ADB.n ?_
      refine ADB.mv 5 rfl (AOpB.op (op_call (roput_c f hf hok o hw hl) rfl (by kernel_rfl) rfl (none) ?_))
      rintro r rfl
      refine ADB.n ?_
      refine ADB.ra 6 rfl (rdA_b2s rfl (by kernel_rfl) rfl) rfl ?_
      refine ADB.r 7 rfl (rdP_sne rfl rfl rfl) rfl ?_
      refine ADB.r 8 rfl (rdP_move rfl rfl) rfl ?_
      refine ADB.fk (d := 61) rfl (fun h61 => ?_) (fun h61 => ?_)
      ·skip
       exact (h61 trivial).elim
      ·skip
       refine ADB.n ?_
       refine ADB.mv 9 rfl (AOpB.op (ARd.opB (rd_loadN_bx rfl ag_47 rfl rfl (Nat.le_of_ble_eq_true rfl) rfl) ?_))
       refine ADB.n ?_
       refine ADB.mv 10 rfl (AOpB.op (op_call (oright_r o) rfl (by kernel_rfl) rfl (none) ?_))
       rintro r rfl
       refine ADB.n ?_
       refine ADB.r 11 rfl (rdP_move rfl rfl) ⟨_, _, rfl, rfl, rfl⟩ ?_
       refine ADB.fk (d := 64) rfl (fun h64 => ?_) (fun h64 => ?_)
       ·skip
        refine ADB.n ?_
        refine ADB.all (is := [12, 13]) (by kernel_rfl) (by simp) ?_
        intro i hi
        simp only [List.mem_cons, List.not_mem_nil, or_false] at hi
        rcases hi with rfl | rfl
        ·skip
         refine ⟨_, rfl, ⟨_, _, rfl, rfl, rfl⟩, AOpB.op (ARd.opB (rd_loadN_bx rfl ag_47 rfl rfl (Nat.le_of_ble_eq_true rfl) rfl) ?_)⟩
         refine ADB.n ?_
         refine ADB.mv 13 rfl (AOpB.op (ARd.opB (rd_loadN_bx rfl ag_47 rfl rfl (Nat.le_of_ble_eq_true rfl) rfl) ?_))
         refine ADB.n ?_
         refine ADB.mv 14 rfl (AOpB.op (op_call (rsame20_c o x2) rfl (by kernel_rfl) rfl (none) ?_))
         rintro r rfl
         refine ADB.n ?_
         refine ADB.r 15 rfl (rdP_un rfl rfl (fun _ => rfl)) ⟨_, _, rfl, rfl, rfl⟩ ?_
         refine ADB.r 16 rfl (rdP_move rfl rfl) ⟨_, _, rfl, rfl, rfl⟩ ?_
         refine ADB.fk (d := 69) rfl (fun h69 => ?_) (fun h69 => ?_)
         ·skip
          exact (h69 (hx2.trans (put_end hok hw hl (by assumption)).1).symm).elim
         ·skip
          refine ADB.n ?_
          refine ADB.r 17 rfl (rdP_move rfl rfl) ⟨_, _, rfl, rfl, rfl⟩ ?_
          refine ADB.mv 18 rfl (calloR (rend_c 1 (getO (newR (putO f o) f)).2 (getO_ok (newR_ok (by omega) f))) [0] ?_)
          rintro y os' ⟨rfl, rfl⟩
          refine ADB.noR ?_
          refine ADB.r 19 rfl (rdP_bin rfl rfl rfl (fun _ => rfl)) ⟨_, _, rfl, rfl, rfl⟩ ?_
          refine ADB.r 20 rfl (rdP_pick_f rfl rfl rfl) ⟨_, _, rfl, rfl, rfl⟩ ?_
          refine ADB.r 21 rfl (rdP_pick_t rfl rfl rfl) ⟨_, _, rfl, rfl, rfl⟩ ?_
          refine ADB.r 22 rfl (rdP_pick_f rfl rfl rfl) rfl ?_
          refine ADB.done (by kernel_rfl) ?_
          change AW _ _ _ _ _
          refine AW.cd rfl (fun h75 => ?_) (fun h75 => ?_)
          ·skip
           exact absurd (put_end hok hw hl (by assumption)).2 h75
          ·skip
           refine AW.skip ?_
           refine ⟨(), trivial, (by simp only [anys, upds, offs, List.set_cons_zero, List.set_cons_succ]; repeat (first | exact Wk.nil | refine Wk.same ?_ | refine Wk.any ?_)), (by simp only [anys, upds, offs, List.set_cons_zero, List.set_cons_succ]; repeat (first | exact Sk.nil _ | refine Sk.same _ ?_ | refine Sk.scr _ (by decide) ?_))⟩
        ·skip
         refine ⟨_, rfl, ⟨_, _, rfl, rfl, rfl⟩, AOpB.op (ARd.opB (rd_loadN_bx rfl ag_47 rfl rfl (Nat.le_of_ble_eq_true rfl) rfl) ?_)⟩
         refine ADB.n ?_
         refine ADB.mv 12 rfl (AOpB.op (ARd.opB (rd_loadN_bx rfl ag_47 rfl rfl (Nat.le_of_ble_eq_true rfl) rfl) ?_))
         refine ADB.n ?_
         refine ADB.mv 14 rfl (AOpB.op (op_call (rsame20_c o x2) rfl (by kernel_rfl) rfl (none) ?_))
         rintro r rfl
         refine ADB.n ?_
         refine ADB.r 15 rfl (rdP_un rfl rfl (fun _ => rfl)) ⟨_, _, rfl, rfl, rfl⟩ ?_
         refine ADB.r 16 rfl (rdP_move rfl rfl) ⟨_, _, rfl, rfl, rfl⟩ ?_
         refine ADB.fk (d := 69) rfl (fun h69 => ?_) (fun h69 => ?_)
         ·skip
          exact (h69 (hx2.trans (put_end hok hw hl (by assumption)).1).symm).elim
         ·skip
          refine ADB.n ?_
          refine ADB.r 17 rfl (rdP_move rfl rfl) ⟨_, _, rfl, rfl, rfl⟩ ?_
          refine ADB.mv 18 rfl (calloR (rend_c 1 (getO (newR (putO f o) f)).2 (getO_ok (newR_ok (by omega) f))) [0] ?_)
          rintro y os' ⟨rfl, rfl⟩
          refine ADB.noR ?_
          refine ADB.r 19 rfl (rdP_bin rfl rfl rfl (fun _ => rfl)) ⟨_, _, rfl, rfl, rfl⟩ ?_
          refine ADB.r 20 rfl (rdP_pick_f rfl rfl rfl) ⟨_, _, rfl, rfl, rfl⟩ ?_
          refine ADB.r 21 rfl (rdP_pick_t rfl rfl rfl) ⟨_, _, rfl, rfl, rfl⟩ ?_
          refine ADB.r 22 rfl (rdP_pick_f rfl rfl rfl) rfl ?_
          refine ADB.done (by kernel_rfl) ?_
          change AW _ _ _ _ _
          refine AW.cd rfl (fun h75 => ?_) (fun h75 => ?_)
          ·skip
           exact absurd (put_end hok hw hl (by assumption)).2 h75
          ·skip
           refine AW.skip ?_
           refine ⟨(), trivial, (by simp only [anys, upds, offs, List.set_cons_zero, List.set_cons_succ]; repeat (first | exact Wk.nil | refine Wk.same ?_ | refine Wk.any ?_)), (by simp only [anys, upds, offs, List.set_cons_zero, List.set_cons_succ]; repeat (first | exact Sk.nil _ | refine Sk.same _ ?_ | refine Sk.scr _ (by decide) ?_))⟩
       ·skip
        refine ADB.n ?_
        refine ADB.s 12 rfl ⟨_, _, rfl, rfl, rfl⟩ ?_
        refine ADB.s 13 rfl ⟨_, _, rfl, rfl, rfl⟩ ?_
        refine ADB.s 14 rfl ⟨_, _, rfl, rfl, rfl⟩ ?_
        refine ADB.s 15 rfl ⟨_, _, rfl, rfl, rfl⟩ ?_
        refine ADB.s 16 rfl ⟨_, _, rfl, rfl, rfl⟩ ?_
        refine ADB.s 17 rfl ⟨_, _, rfl, rfl, rfl⟩ ?_
        refine ADB.s 18 rfl ⟨_, _, rfl, rfl, rfl⟩ ?_
        refine ADB.s 19 rfl ⟨_, _, rfl, rfl, rfl⟩ ?_
        refine ADB.s 20 rfl ⟨_, _, rfl, rfl, rfl⟩ ?_
        refine ADB.r 21 rfl (rdP_pick_f rfl rfl rfl) ⟨_, _, rfl, rfl, rfl⟩ ?_
        refine ADB.r 22 rfl (rdP_pick_f rfl rfl rfl) rfl ?_
        refine ADB.done (by kernel_rfl) ?_
        change AW _ _ _ _ _
        refine AW.cond_f rfl ?_
        refine AW.skip ?_
        refine ⟨(), trivial, (by simp only [anys, upds, offs, List.set_cons_zero, List.set_cons_succ]; repeat (first | exact Wk.nil | refine Wk.same ?_ | refine Wk.any ?_)), (by simp only [anys, upds, offs, List.set_cons_zero, List.set_cons_succ]; repeat (first | exact Sk.nil _ | refine Sk.same _ ?_ | refine Sk.scr _ (by decide) ?_))⟩
     ·rintro u75 gs75 hJ75
      refine AW.norm (by simp only [anys, upds, offs, List.set_cons_zero, List.set_cons_succ]; rfl) (by (try simp only [anys, upds, offs, List.set_cons_zero, List.set_cons_succ]); (try rfl)) ?_
      (try dsimp only at hJ75)
      change AW _ _ _ _ _
      refine AW.seq ?_
      refine AW.seq ?_
      refine AW.region ?_
      have hr1 := get20_rng (l := putO f o) hok (by omega); have hr2 := get20_rng (l := b) hok (by omega)
      refine AL.rm ?_
      refine AL.r (rd_byr_from rfl el_83 rfl rfl (m := 1) rfl (by simp)) ?_
      refine AL.rm ?_
      refine AL.op rfl (AOpB.op (bs_set rfl ap_103 ze_83 rfl rfl ?_))
      refine AL.no ?_
      refine AL.r (rd_len_sl rfl el_103 rfl) ?_
      refine AL.rm ?_
      refine AL.nil ?_
      change AW _ _ _ _ _
      refine AW.block ?_
      refine AW.unroll 3 ?_
      change AW _ _ _ _ _
      refine AW.seq ?_
      refine AW.region ?_
      refine AL.r (rd_bin rfl rfl rfl (fun _ => rfl)) ?_
      refine AL.nil ?_
      change AW _ _ _ _ _
      refine AW.seq ?_
      refine AW.cd rfl (fun h82 => ?_) (fun h82 => ?_)
      ·skip
       refine AW.skip ?_
       change AW _ _ _ _ _
       refine AW.seq ?_
       refine AW.block ?_
       refine AW.seq ?_
       refine AW.region ?_
       refine AL.r (rd_iaddr_sl (n := 0) rfl el_103 rfl rfl rfl rfl rfl) ?_
       refine AL.r (rd_load_ep rfl ag_83 rfl rfl) ?_
       refine AL.ra ?_
       refine AL.nil ?_
       change AW _ _ _ _ _
       refine AW.seq ?_
       refine AW.region ?_
       refine AL.rm ?_
       refine AL.rm ?_
       refine AL.op rfl (calloR (rnew_c (putO f o) (by omega) f 0) [1] ?_)
       rintro y os' ⟨rfl, rfl⟩
       refine AL.noR ?_
       refine AL.ra ?_
       refine AL.nil ?_
       change AW _ _ _ _ _
       refine AW.seq ?_
       refine AW.region ?_
       refine AL.rm ?_
       refine AL.op rfl (calloR (oget_x 1 (newR (putO f o) f) (newR_ok (by omega) f)) [1] ?_)
       rintro y os' ⟨x3, hx3, rfl, rfl⟩
       refine AL.noR ?_
       refine AL.op rfl (AOpB.op (op_alloc 7 rfl ze_47 rfl ?_))
       refine AL.no ?_
       refine AL.op rfl (op_store_ rfl rfl rfl rfl rfl sz_47 ?_)
       refine AL.no ?_
       refine AL.nil ?_
       change AW _ _ _ _ _
       refine AW.seq ?_
       refine AW.region ?_
       refine AL.rm ?_
       refine AL.rm ?_
       refine AL.op rfl (AOpB.op (op_call (roget_x (putO f o) f 0 (by omega) (by omega)) rfl (by kernel_rfl) rfl (none) ?_))
       rintro r ⟨y3, hy3, rfl⟩
       refine AL.no ?_
       refine AL.rm ?_
       refine AL.r (rd_extract rfl rfl rfl) ?_
       refine AL.r (rd_extract rfl rfl rfl) ?_
       refine AL.r (rd_extract rfl rfl rfl) ?_
       refine AL.op rfl (AOpB.op (op_alloc 8 rfl ze_47 rfl ?_))
       refine AL.no ?_
       refine AL.op rfl (op_store_ rfl rfl rfl rfl rfl sz_47 ?_)
       refine AL.no ?_
       refine AL.ra ?_
       refine AL.ra ?_
       refine AL.nil ?_
       change AW _ _ _ _ _
       refine AW.seq ?_
       refine AW.region ?_
       refine AL.rm ?_
       refine AL.rm ?_
       refine AL.op rfl (calloR (rbad_c 1 (getO (newR (putO f o) f)).2) [1] ?_)
       rintro y os' ⟨rfl, rfl⟩
       refine AL.noR ?_
       refine AL.r (rd_beql rfl bo_4 rfl rfl) ?_
       refine AL.rm ?_
       refine AL.fk (d := 101) rfl (fun h101 => ?_) (fun h101 => ?_)
       ·skip
        exact (sim_ne hok h101).elim
       ·skip
        refine AL.n ?_
        refine AL.ro (rd_loadN_bx rfl ag_47 rfl rfl (Nat.le_of_ble_eq_true rfl) rfl) ?_
        refine AL.ro (rd_loadN_bx rfl ag_47 rfl rfl (Nat.le_of_ble_eq_true rfl) rfl) ?_
        refine AL.on rfl rfl rfl (AOpB.op (op_call (rsame20_c x3 y3) rfl (by kernel_rfl) rfl (none) ?_))
        rintro r rfl
        refine AL.no ?_
        refine AL.ro (rd_un rfl rfl (fun _ => rfl)) ?_
        refine AL.r (rd_pick_f rfl rfl rfl) ?_
        refine AL.rm ?_
        refine AL.fk (d := 107) rfl (fun h107 => ?_) (fun h107 => ?_)
        ·skip
         exact (h107 (by rw [hx3, hy3]; exact sim_same hok)).elim
        ·skip
         refine AL.n ?_
         refine AL.ro (rd_move rfl rfl) ?_
         refine AL.ro (rd_move rfl rfl) ?_
         refine AL.fk (d := 109) rfl (fun h109 => ?_) (fun h109 => ?_)
         ·skip
          refine AL.n ?_
          refine AL.ro (rd_move rfl rfl) ?_
          refine AL.on rfl rfl rfl (calloR (rleft_c 1 (getO (newR (putO f o) f)).2 (getO_ok (newR_ok (by omega) f))) [1] ?_)
          rintro y os' ⟨rfl, rfl⟩
          refine AL.noR ?_
          refine AL.ro (rd_move rfl rfl) ?_
          refine AL.ro (rd_len_sl rfl el_83 rfl) ?_
          refine AL.ro (rd_move rfl rfl) ?_
          refine AL.ro (rd_arith_sub rfl rfl rfl (IntWalk.i64_in _ (by omega))) ?_
          refine AL.ro (rd_bin rfl rfl rfl (fun _ => rfl)) ?_
          refine AL.ro (rd_pick_t rfl rfl rfl) ?_
          refine AL.r (rd_pick_f rfl rfl rfl) ?_
          refine AL.nil ?_
          change AW _ _ _ _ _
          refine AW.cd rfl (fun h118 => ?_) (fun h118 => ?_)
          ·skip
           exact absurd (sim_left (l := putO f o) hok (by omega) (by assumption)).1 h118
          ·skip
           refine AW.skip ?_
           change AW _ _ _ _ _
           refine AW.region ?_
           refine AL.r (rd_arith_add rfl rfl rfl (rfl : _ = (1 : Int))) ?_
           refine AL.rm ?_
           refine AL.nil ?_
           change AW _ _ _ _ _
           refine AW.seq ?_
           refine AW.region ?_
           refine AL.r (rd_bin rfl rfl rfl (fun _ => rfl)) ?_
           refine AL.nil ?_
           change AW _ _ _ _ _
           refine AW.seq ?_
           refine AW.cd rfl (fun h82 => ?_) (fun h82 => ?_)
           ·skip
            refine AW.skip ?_
            change AW _ _ _ _ _
            refine AW.seq ?_
            refine AW.block ?_
            refine AW.seq ?_
            refine AW.region ?_
            refine AL.r (rd_iaddr_sl (n := 1) rfl el_103 rfl rfl rfl rfl rfl) ?_
            refine AL.r (rd_load_ep rfl ag_83 rfl rfl) ?_
            refine AL.ra ?_
            refine AL.nil ?_
            change AW _ _ _ _ _
            refine AW.seq ?_
            refine AW.region ?_
            refine AL.rm ?_
            refine AL.rm ?_
            refine AL.op rfl (calloR (rnew_c b (by omega) f 0) [2] ?_)
            rintro y os' ⟨rfl, rfl⟩
            refine AL.noR ?_
            refine AL.ra ?_
            refine AL.nil ?_
            change AW _ _ _ _ _
            refine AW.seq ?_
            refine AW.region ?_
            refine AL.rm ?_
            refine AL.op rfl (calloR (oget_x 1 (newR b f) (newR_ok (by omega) f)) [2] ?_)
            rintro y os' ⟨x3, hx3, rfl, rfl⟩
            refine AL.noR ?_
            refine AL.op rfl (AOpB.op (op_alloc 7 rfl ze_47 rfl ?_))
            refine AL.no ?_
            refine AL.op rfl (op_store_ rfl rfl rfl rfl rfl sz_47 ?_)
            refine AL.no ?_
            refine AL.nil ?_
            change AW _ _ _ _ _
            refine AW.seq ?_
            refine AW.region ?_
            refine AL.rm ?_
            refine AL.rm ?_
            refine AL.op rfl (AOpB.op (op_call (roget_x b f 0 (by omega) (by omega)) rfl (by kernel_rfl) rfl (none) ?_))
            rintro r ⟨y3, hy3, rfl⟩
            refine AL.no ?_
            refine AL.rm ?_
            refine AL.r (rd_extract rfl rfl rfl) ?_
            refine AL.r (rd_extract rfl rfl rfl) ?_
            refine AL.r (rd_extract rfl rfl rfl) ?_
            refine AL.op rfl (AOpB.op (op_alloc 8 rfl ze_47 rfl ?_))
            refine AL.no ?_
            refine AL.op rfl (op_store_ rfl rfl rfl rfl rfl sz_47 ?_)
            refine AL.no ?_
            refine AL.ra ?_
            refine AL.ra ?_
            refine AL.nil ?_
            change AW _ _ _ _ _
            refine AW.seq ?_
            refine AW.region ?_
            refine AL.rm ?_
            refine AL.rm ?_
            refine AL.op rfl (calloR (rbad_c 1 (getO (newR b f)).2) [2] ?_)
            rintro y os' ⟨rfl, rfl⟩
            refine AL.noR ?_
            refine AL.r (rd_beql rfl bo_4 rfl rfl) ?_
            refine AL.rm ?_
            refine AL.fk (d := 101) rfl (fun h101 => ?_) (fun h101 => ?_)
            ·skip
             exact (sim_ne hok h101).elim
            ·skip
             refine AL.n ?_
             refine AL.ro (rd_loadN_bx rfl ag_47 rfl rfl (Nat.le_of_ble_eq_true rfl) rfl) ?_
             refine AL.ro (rd_loadN_bx rfl ag_47 rfl rfl (Nat.le_of_ble_eq_true rfl) rfl) ?_
             refine AL.on rfl rfl rfl (AOpB.op (op_call (rsame20_c x3 y3) rfl (by kernel_rfl) rfl (none) ?_))
             rintro r rfl
             refine AL.no ?_
             refine AL.ro (rd_un rfl rfl (fun _ => rfl)) ?_
             refine AL.r (rd_pick_f rfl rfl rfl) ?_
             refine AL.rm ?_
             refine AL.fk (d := 107) rfl (fun h107 => ?_) (fun h107 => ?_)
             ·skip
              exact (h107 (by rw [hx3, hy3]; exact sim_same hok)).elim
             ·skip
              refine AL.n ?_
              refine AL.ro (rd_move rfl rfl) ?_
              refine AL.ro (rd_move rfl rfl) ?_
              refine AL.fk (d := 109) rfl (fun h109 => ?_) (fun h109 => ?_)
              ·skip
               refine AL.n ?_
               refine AL.ro (rd_move rfl rfl) ?_
               refine AL.on rfl rfl rfl (calloR (rleft_c 1 (getO (newR b f)).2 (getO_ok (newR_ok (by omega) f))) [2] ?_)
               rintro y os' ⟨rfl, rfl⟩
               refine AL.noR ?_
               refine AL.ro (rd_move rfl rfl) ?_
               refine AL.ro (rd_len_sl rfl el_83 rfl) ?_
               refine AL.ro (rd_move rfl rfl) ?_
               refine AL.ro (rd_arith_sub rfl rfl rfl (IntWalk.i64_in _ (by omega))) ?_
               refine AL.ro (rd_bin rfl rfl rfl (fun _ => rfl)) ?_
               refine AL.ro (rd_pick_t rfl rfl rfl) ?_
               refine AL.r (rd_pick_f rfl rfl rfl) ?_
               refine AL.nil ?_
               change AW _ _ _ _ _
               refine AW.cd rfl (fun h118 => ?_) (fun h118 => ?_)
               ·skip
                exact absurd (sim_left (l := b) hok (by omega) (by assumption)).1 h118
               ·skip
                refine AW.skip ?_
                change AW _ _ _ _ _
                refine AW.region ?_
                refine AL.r (rd_arith_add rfl rfl rfl (rfl : _ = (2 : Int))) ?_
                refine AL.rm ?_
                refine AL.nil ?_
                change AW _ _ _ _ _
                refine AW.seq ?_
                refine AW.region ?_
                refine AL.r (rd_bin rfl rfl rfl (fun _ => rfl)) ?_
                refine AL.nil ?_
                change AW _ _ _ _ _
                refine AW.seq ?_
                refine AW.cd rfl (fun h82 => ?_) (fun h82 => ?_)
                ·skip
                 (first | omega | simp_all)
                ·skip
                 refine AW.exit ?_
                 change AW _ _ _ _ _
                 refine AW.seq ?_
                 refine AW.region ?_
                 refine AL.ra ?_
                 refine AL.nil ?_
                 change AW _ _ _ _ _
                 refine AW.ret ?_
                 change ResA _ _ _ _ _
                 refine res1 rfl (ResV.tmp rfl) rfl ?_
                 rfl
              ·skip
               refine AL.n ?_
               refine AL.rf ?_
               refine AL.rf ?_
               refine AL.rf ?_
               refine AL.rf ?_
               refine AL.rf ?_
               refine AL.rf ?_
               refine AL.rf ?_
               refine AL.ro (rd_pick_f rfl rfl rfl) ?_
               refine AL.r (rd_pick_f rfl rfl rfl) ?_
               refine AL.nil ?_
               change AW _ _ _ _ _
               refine AW.cond_f rfl ?_
               refine AW.skip ?_
               change AW _ _ _ _ _
               refine AW.region ?_
               refine AL.r (rd_arith_add rfl rfl rfl (rfl : _ = (2 : Int))) ?_
               refine AL.rm ?_
               refine AL.nil ?_
               change AW _ _ _ _ _
               refine AW.seq ?_
               refine AW.region ?_
               refine AL.r (rd_bin rfl rfl rfl (fun _ => rfl)) ?_
               refine AL.nil ?_
               change AW _ _ _ _ _
               refine AW.seq ?_
               refine AW.cd rfl (fun h82 => ?_) (fun h82 => ?_)
               ·skip
                (first | omega | simp_all)
               ·skip
                refine AW.exit ?_
                change AW _ _ _ _ _
                refine AW.seq ?_
                refine AW.region ?_
                refine AL.ra ?_
                refine AL.nil ?_
                change AW _ _ _ _ _
                refine AW.ret ?_
                change ResA _ _ _ _ _
                refine res1 rfl (ResV.tmp rfl) rfl ?_
                rfl
           ·skip
            (first | omega | simp_all)
         ·skip
          refine AL.n ?_
          refine AL.rf ?_
          refine AL.rf ?_
          refine AL.rf ?_
          refine AL.rf ?_
          refine AL.rf ?_
          refine AL.rf ?_
          refine AL.rf ?_
          refine AL.ro (rd_pick_f rfl rfl rfl) ?_
          refine AL.r (rd_pick_f rfl rfl rfl) ?_
          refine AL.nil ?_
          change AW _ _ _ _ _
          refine AW.cond_f rfl ?_
          refine AW.skip ?_
          change AW _ _ _ _ _
          refine AW.region ?_
          refine AL.r (rd_arith_add rfl rfl rfl (rfl : _ = (1 : Int))) ?_
          refine AL.rm ?_
          refine AL.nil ?_
          change AW _ _ _ _ _
          refine AW.seq ?_
          refine AW.region ?_
          refine AL.r (rd_bin rfl rfl rfl (fun _ => rfl)) ?_
          refine AL.nil ?_
          change AW _ _ _ _ _
          refine AW.seq ?_
          refine AW.cd rfl (fun h82 => ?_) (fun h82 => ?_)
          ·skip
           refine AW.skip ?_
           change AW _ _ _ _ _
           refine AW.seq ?_
           refine AW.block ?_
           refine AW.seq ?_
           refine AW.region ?_
           refine AL.r (rd_iaddr_sl (n := 1) rfl el_103 rfl rfl rfl rfl rfl) ?_
           refine AL.r (rd_load_ep rfl ag_83 rfl rfl) ?_
           refine AL.ra ?_
           refine AL.nil ?_
           change AW _ _ _ _ _
           refine AW.seq ?_
           refine AW.region ?_
           refine AL.rm ?_
           refine AL.rm ?_
           refine AL.op rfl (calloR (rnew_c b (by omega) f 0) [2] ?_)
           rintro y os' ⟨rfl, rfl⟩
           refine AL.noR ?_
           refine AL.ra ?_
           refine AL.nil ?_
           change AW _ _ _ _ _
           refine AW.seq ?_
           refine AW.region ?_
           refine AL.rm ?_
           refine AL.op rfl (calloR (oget_x 1 (newR b f) (newR_ok (by omega) f)) [2] ?_)
           rintro y os' ⟨x3, hx3, rfl, rfl⟩
           refine AL.noR ?_
           refine AL.op rfl (AOpB.op (op_alloc 7 rfl ze_47 rfl ?_))
           refine AL.no ?_
           refine AL.op rfl (op_store_ rfl rfl rfl rfl rfl sz_47 ?_)
           refine AL.no ?_
           refine AL.nil ?_
           change AW _ _ _ _ _
           refine AW.seq ?_
           refine AW.region ?_
           refine AL.rm ?_
           refine AL.rm ?_
           refine AL.op rfl (AOpB.op (op_call (roget_x b f 0 (by omega) (by omega)) rfl (by kernel_rfl) rfl (none) ?_))
           rintro r ⟨y3, hy3, rfl⟩
           refine AL.no ?_
           refine AL.rm ?_
           refine AL.r (rd_extract rfl rfl rfl) ?_
           refine AL.r (rd_extract rfl rfl rfl) ?_
           refine AL.r (rd_extract rfl rfl rfl) ?_
           refine AL.op rfl (AOpB.op (op_alloc 8 rfl ze_47 rfl ?_))
           refine AL.no ?_
           refine AL.op rfl (op_store_ rfl rfl rfl rfl rfl sz_47 ?_)
           refine AL.no ?_
           refine AL.ra ?_
           refine AL.ra ?_
           refine AL.nil ?_
           change AW _ _ _ _ _
           refine AW.seq ?_
           refine AW.region ?_
           refine AL.rm ?_
           refine AL.rm ?_
           refine AL.op rfl (calloR (rbad_c 1 (getO (newR b f)).2) [2] ?_)
           rintro y os' ⟨rfl, rfl⟩
           refine AL.noR ?_
           refine AL.r (rd_beql rfl bo_4 rfl rfl) ?_
           refine AL.rm ?_
           refine AL.fk (d := 101) rfl (fun h101 => ?_) (fun h101 => ?_)
           ·skip
            exact (sim_ne hok h101).elim
           ·skip
            refine AL.n ?_
            refine AL.ro (rd_loadN_bx rfl ag_47 rfl rfl (Nat.le_of_ble_eq_true rfl) rfl) ?_
            refine AL.ro (rd_loadN_bx rfl ag_47 rfl rfl (Nat.le_of_ble_eq_true rfl) rfl) ?_
            refine AL.on rfl rfl rfl (AOpB.op (op_call (rsame20_c x3 y3) rfl (by kernel_rfl) rfl (none) ?_))
            rintro r rfl
            refine AL.no ?_
            refine AL.ro (rd_un rfl rfl (fun _ => rfl)) ?_
            refine AL.r (rd_pick_f rfl rfl rfl) ?_
            refine AL.rm ?_
            refine AL.fk (d := 107) rfl (fun h107 => ?_) (fun h107 => ?_)
            ·skip
             exact (h107 (by rw [hx3, hy3]; exact sim_same hok)).elim
            ·skip
             refine AL.n ?_
             refine AL.ro (rd_move rfl rfl) ?_
             refine AL.ro (rd_move rfl rfl) ?_
             refine AL.fk (d := 109) rfl (fun h109 => ?_) (fun h109 => ?_)
             ·skip
              refine AL.n ?_
              refine AL.ro (rd_move rfl rfl) ?_
              refine AL.on rfl rfl rfl (calloR (rleft_c 1 (getO (newR b f)).2 (getO_ok (newR_ok (by omega) f))) [2] ?_)
              rintro y os' ⟨rfl, rfl⟩
              refine AL.noR ?_
              refine AL.ro (rd_move rfl rfl) ?_
              refine AL.ro (rd_len_sl rfl el_83 rfl) ?_
              refine AL.ro (rd_move rfl rfl) ?_
              refine AL.ro (rd_arith_sub rfl rfl rfl (IntWalk.i64_in _ (by omega))) ?_
              refine AL.ro (rd_bin rfl rfl rfl (fun _ => rfl)) ?_
              refine AL.ro (rd_pick_t rfl rfl rfl) ?_
              refine AL.r (rd_pick_f rfl rfl rfl) ?_
              refine AL.nil ?_
              change AW _ _ _ _ _
              refine AW.cd rfl (fun h118 => ?_) (fun h118 => ?_)
              ·skip
               exact absurd (sim_left (l := b) hok (by omega) (by assumption)).1 h118
              ·skip
               refine AW.skip ?_
               change AW _ _ _ _ _
               refine AW.region ?_
               refine AL.r (rd_arith_add rfl rfl rfl (rfl : _ = (2 : Int))) ?_
               refine AL.rm ?_
               refine AL.nil ?_
               change AW _ _ _ _ _
               refine AW.seq ?_
               refine AW.region ?_
               refine AL.r (rd_bin rfl rfl rfl (fun _ => rfl)) ?_
               refine AL.nil ?_
               change AW _ _ _ _ _
               refine AW.seq ?_
               refine AW.cd rfl (fun h82 => ?_) (fun h82 => ?_)
               ·skip
                (first | omega | simp_all)
               ·skip
                refine AW.exit ?_
                change AW _ _ _ _ _
                refine AW.seq ?_
                refine AW.region ?_
                refine AL.ra ?_
                refine AL.nil ?_
                change AW _ _ _ _ _
                refine AW.ret ?_
                change ResA _ _ _ _ _
                refine res1 rfl (ResV.tmp rfl) rfl ?_
                rfl
             ·skip
              refine AL.n ?_
              refine AL.rf ?_
              refine AL.rf ?_
              refine AL.rf ?_
              refine AL.rf ?_
              refine AL.rf ?_
              refine AL.rf ?_
              refine AL.rf ?_
              refine AL.ro (rd_pick_f rfl rfl rfl) ?_
              refine AL.r (rd_pick_f rfl rfl rfl) ?_
              refine AL.nil ?_
              change AW _ _ _ _ _
              refine AW.cond_f rfl ?_
              refine AW.skip ?_
              change AW _ _ _ _ _
              refine AW.region ?_
              refine AL.r (rd_arith_add rfl rfl rfl (rfl : _ = (2 : Int))) ?_
              refine AL.rm ?_
              refine AL.nil ?_
              change AW _ _ _ _ _
              refine AW.seq ?_
              refine AW.region ?_
              refine AL.r (rd_bin rfl rfl rfl (fun _ => rfl)) ?_
              refine AL.nil ?_
              change AW _ _ _ _ _
              refine AW.seq ?_
              refine AW.cd rfl (fun h82 => ?_) (fun h82 => ?_)
              ·skip
               (first | omega | simp_all)
              ·skip
               refine AW.exit ?_
               change AW _ _ _ _ _
               refine AW.seq ?_
               refine AW.region ?_
               refine AL.ra ?_
               refine AL.nil ?_
               change AW _ _ _ _ _
               refine AW.ret ?_
               change ResA _ _ _ _ _
               refine res1 rfl (ResV.tmp rfl) rfl ?_
               rfl
          ·skip
           (first | omega | simp_all)
      ·skip
       (first | omega | simp_all)
set_option maxHeartbeats 8000000 in
theorem bytes_2 (h1 : f = 2) (hok : okF f = true) : AC Try.prog 14 [.ag [AI o.id.rep, AI o.id.n, AI o.schema.rep, AI o.schema.n, AI o.time, AS o.cart, AI o.kind, AS o.item, AI o.at_.scope, AS o.at_.group, AS o.at_.name, AI o.delta, AB o.has, AS o.text, .sl (o.drops.map TagD.cs)], .sc (.int .i64 f), .sl (byA b)] (fun r => r = .s (AB true)) := by
  have hbb := byA_len b
  change AC _ _ [.ag [AI o.id.rep, AI o.id.n, AI o.schema.rep, AI o.schema.n, AI o.time, AS o.cart, AI o.kind, AS o.item, AI o.at_.scope, AS o.at_.group, AS o.at_.name, AI o.delta, AB o.has, AS o.text, .sl (o.drops.map TagD.cs)], .sc (.int .i64 f), .sl (byA b)] _
  refine AC.of' 117 9 Try.func14 rfl ?_
  change AW _ _ _ _ [TK.mk 0 .off, TK.mk 0 .off, TK.mk 0 .off, TK.mk 0 .off, TK.mk 0 .off, TK.mk 0 .off, TK.mk 0 .off, TK.mk 0 .off, TK.mk 0 .off]
  refine AW.seq ?_
  refine AW.region ?_
  refine AL.op rfl (AOpB.op (op_box 3 rfl rfl rfl rfl rfl ?_))
  refine AL.no ?_
  refine AL.ra ?_
  refine AL.nil ?_
  change AW _ _ _ _ _
  refine AW.seq ?_
  refine AW.seq ?_
  refine AW.region ?_
  refine AL.op rfl (AOpB.op (op_call (awake20) rfl (by kernel_rfl) rfl (none) ?_))
  rintro r rfl
  refine AL.no ?_
  refine AL.r (rd_un rfl rfl (fun _ => rfl)) ?_
  refine AL.nil ?_
  change AW _ _ _ _ _
  refine AW.cond_f rfl ?_
  refine AW.skip ?_
  change AW _ _ _ _ _
  refine AW.seq ?_
  refine AW.seq ?_
  refine AW.region ?_
  refine AL.r (rd_loadN_bx rfl ag_47 rfl rfl (Nat.le_of_ble_eq_true rfl) rfl) ?_
  refine AL.op rfl (AOpB.op (op_call (oheavy_c o) rfl (by kernel_rfl) rfl (none) ?_))
  rintro r rfl
  refine AL.no ?_
  refine AL.rm ?_
  refine AL.fk (d := 21) rfl (fun h21 => ?_) (fun h21 => ?_)
  ·skip
   refine AL.n ?_
   refine AL.rf ?_
   refine AL.rf ?_
   refine AL.rf ?_
   refine AL.r (rd_pick_t rfl rfl rfl) ?_
   refine AL.nil ?_
   change AW _ _ _ _ _
   refine AW.cond_t rfl ?_
   refine AW.seq ?_
   refine AW.region ?_
   refine AL.ra ?_
   refine AL.nil ?_
   change AW _ _ _ _ _
   refine AW.ret ?_
   change ResA _ _ _ _ _
   refine res1 rfl (ResV.tmp rfl) rfl ?_
   rfl
  ·skip
   refine AL.n ?_
   refine AL.ro (rd_move rfl rfl) ?_
   refine AL.ro (rd_len_sl rfl el_83 rfl) ?_
   refine AL.ro (rd_bin rfl rfl rfl (fun _ => rfl)) ?_
   refine AL.r (rd_pick_f rfl rfl rfl) ?_
   refine AL.nil ?_
   change AW _ _ _ _ _
   refine AW.cd rfl (fun h25 => ?_) (fun h25 => ?_)
   ·skip
    refine AW.seq ?_
    refine AW.region ?_
    refine AL.ra ?_
    refine AL.nil ?_
    change AW _ _ _ _ _
    refine AW.ret ?_
    change ResA _ _ _ _ _
    refine res1 rfl (ResV.tmp rfl) rfl ?_
    rfl
   ·skip
    refine AW.skip ?_
    change AW _ _ _ _ _
    refine AW.seq ?_
    refine AW.region ?_
    have hl := heavyO_light (by assumption); have hpl := putO_len (f := f) hl
    refine AL.op rfl (AOpB.op (bs_set rfl ap_83 ze_5 rfl rfl ?_))
    refine AL.no ?_
    refine AL.rm ?_
    refine AL.r (rd_loadN_bx rfl ag_47 rfl rfl (Nat.le_of_ble_eq_true rfl) rfl) ?_
    refine AL.op rfl (AOpB.op (op_call (oput_9 f o hf hw hl hok) rfl (by kernel_rfl) rfl (none) ?_))
    rintro r rfl
    refine AL.no ?_
    refine AL.ra ?_
    refine AL.nil ?_
    change AW _ _ _ _ _
    refine AW.seq ?_
    refine AW.seq ?_
    refine AW.region ?_
    refine AL.rm ?_
    refine AL.r (rd_bin rfl rfl rfl (fun _ => rfl)) ?_
    refine AL.rm ?_
    refine AL.fk (d := 32) rfl (fun h32 => ?_) (fun h32 => ?_)
    ·skip
     refine AL.n ?_
     refine AL.ro (rd_move rfl rfl) ?_
     refine AL.ro (rd_bin rfl rfl rfl (fun _ => rfl)) ?_
     refine AL.r (rd_pick_t rfl rfl rfl) ?_
     refine AL.nil ?_
     change AW _ _ _ _ _
     refine AW.cd rfl (fun h35 => ?_) (fun h35 => ?_)
     ·skip
      omega
     ·skip
      refine AW.skip ?_
      change AW _ _ _ _ _
      refine AW.seq ?_
      refine AW.region ?_
      refine AL.rm ?_
      refine AL.r (rd_byr_from rfl el_83 rfl rfl (m := 1) rfl (by simp)) ?_
      refine AL.rm ?_
      refine AL.op rfl (calloR (rnew_c (putO f o) (by omega) f 0) [0] ?_)
      rintro y os' ⟨rfl, rfl⟩
      refine AL.noR ?_
      refine AL.ra ?_
      refine AL.nil ?_
      change AW _ _ _ _ _
      refine AW.seq ?_
      refine AW.region ?_
      refine AL.rm ?_
      refine AL.op rfl (calloR (oget_x 1 (newR (putO f o) f) (newR_ok (by omega) f)) [0] ?_)
      rintro y os' ⟨x2, hx2, rfl, rfl⟩
      refine AL.noR ?_
      refine AL.op rfl (AOpB.op (op_alloc 5 rfl ze_47 rfl ?_))
      refine AL.no ?_
      refine AL.op rfl (op_store_ rfl rfl rfl rfl rfl sz_47 ?_)
      refine AL.no ?_
      refine AL.nil ?_
      change AW _ _ _ _ _
      refine AW.join (ι := Unit) [6, 53, 54, 55, 56, 57, 58, 59, 60, 61, 62, 63, 64, 65, 66, 67, 68, 69, 70, 71, 72, 73, 74, 75] (fun u75 => []) [] (fun u75 => []) (fun u75 => True) ?_ ?_
      ·skip
       refine AW.seq ?_
       refine AW.drawA (by kernel_rfl) ?_
       refine ADA.r 0 rfl (ARdP.a (rdP_move rfl rfl)) rfl ?_
       refine ADA.r 1 rfl (ARdP.a (rdP_byr_from rfl el_83 rfl rfl (m := 1) rfl (by simp))) rfl ?_
       refine ADA.r 2 rfl (rdA_b2s rfl (by kernel_rfl) rfl) rfl ?_
       refine ADA.r 3 rfl (ARdP.a (rdP_move rfl rfl)) rfl ?_
       refine ADA.b ?_
       refine ADB.mv 4 rfl (AOpB.op (ARd.opB (rd_loadN_bx rfl ag_47 rfl rfl (Nat.le_of_ble_eq_true rfl) rfl) ?_))
       refine ADB.n ?_
       refine ADB.mv 5 rfl (AOpB.op (op_call (roput_c f hf hok o hw hl) rfl (by kernel_rfl) rfl (none) ?_))
       rintro r rfl
       refine ADB.n ?_
       refine ADB.ra 6 rfl (rdA_b2s rfl (by kernel_rfl) rfl) rfl ?_
       refine ADB.r 7 rfl (rdP_sne rfl rfl rfl) rfl ?_
       refine ADB.r 8 rfl (rdP_move rfl rfl) rfl ?_
       refine ADB.fk (d := 61) rfl (fun h61 => ?_) (fun h61 => ?_)
       ·skip
        exact (h61 trivial).elim
       ·skip
        refine ADB.n ?_
        refine ADB.mv 9 rfl (AOpB.op (ARd.opB (rd_loadN_bx rfl ag_47 rfl rfl (Nat.le_of_ble_eq_true rfl) rfl) ?_))
        refine ADB.n ?_
        refine ADB.mv 10 rfl (AOpB.op (op_call (oright_r o) rfl (by kernel_rfl) rfl (none) ?_))
        rintro r rfl
        refine ADB.n ?_
        refine ADB.r 11 rfl (rdP_move rfl rfl) ⟨_, _, rfl, rfl, rfl⟩ ?_
        refine ADB.fk (d := 64) rfl (fun h64 => ?_) (fun h64 => ?_)
        ·skip
         refine ADB.n ?_
         refine ADB.all (is := [12, 13]) (by kernel_rfl) (by simp) ?_
         intro i hi
         simp only [List.mem_cons, List.not_mem_nil, or_false] at hi
         rcases hi with rfl | rfl
         ·skip
          refine ⟨_, rfl, ⟨_, _, rfl, rfl, rfl⟩, AOpB.op (ARd.opB (rd_loadN_bx rfl ag_47 rfl rfl (Nat.le_of_ble_eq_true rfl) rfl) ?_)⟩
          refine ADB.n ?_
          refine ADB.mv 13 rfl (AOpB.op (ARd.opB (rd_loadN_bx rfl ag_47 rfl rfl (Nat.le_of_ble_eq_true rfl) rfl) ?_))
          refine ADB.n ?_
          refine ADB.mv 14 rfl (AOpB.op (op_call (rsame20_c o x2) rfl (by kernel_rfl) rfl (none) ?_))
          rintro r rfl
          refine ADB.n ?_
          refine ADB.r 15 rfl (rdP_un rfl rfl (fun _ => rfl)) ⟨_, _, rfl, rfl, rfl⟩ ?_
          refine ADB.r 16 rfl (rdP_move rfl rfl) ⟨_, _, rfl, rfl, rfl⟩ ?_
          refine ADB.fk (d := 69) rfl (fun h69 => ?_) (fun h69 => ?_)
          ·skip
           exact (h69 (hx2.trans (put_end hok hw hl (by assumption)).1).symm).elim
          ·skip
           refine ADB.n ?_
           refine ADB.r 17 rfl (rdP_move rfl rfl) ⟨_, _, rfl, rfl, rfl⟩ ?_
           refine ADB.mv 18 rfl (calloR (rend_c 1 (getO (newR (putO f o) f)).2 (getO_ok (newR_ok (by omega) f))) [0] ?_)
           rintro y os' ⟨rfl, rfl⟩
           refine ADB.noR ?_
           refine ADB.r 19 rfl (rdP_bin rfl rfl rfl (fun _ => rfl)) ⟨_, _, rfl, rfl, rfl⟩ ?_
           refine ADB.r 20 rfl (rdP_pick_f rfl rfl rfl) ⟨_, _, rfl, rfl, rfl⟩ ?_
           refine ADB.r 21 rfl (rdP_pick_t rfl rfl rfl) ⟨_, _, rfl, rfl, rfl⟩ ?_
           refine ADB.r 22 rfl (rdP_pick_f rfl rfl rfl) rfl ?_
           refine ADB.done (by kernel_rfl) ?_
           change AW _ _ _ _ _
           refine AW.cd rfl (fun h75 => ?_) (fun h75 => ?_)
           ·skip
            exact absurd (put_end hok hw hl (by assumption)).2 h75
           ·skip
            refine AW.skip ?_
            refine ⟨(), trivial, (by simp only [anys, upds, offs, List.set_cons_zero, List.set_cons_succ]; repeat (first | exact Wk.nil | refine Wk.same ?_ | refine Wk.any ?_)), (by simp only [anys, upds, offs, List.set_cons_zero, List.set_cons_succ]; repeat (first | exact Sk.nil _ | refine Sk.same _ ?_ | refine Sk.scr _ (by decide) ?_))⟩
         ·skip
          refine ⟨_, rfl, ⟨_, _, rfl, rfl, rfl⟩, AOpB.op (ARd.opB (rd_loadN_bx rfl ag_47 rfl rfl (Nat.le_of_ble_eq_true rfl) rfl) ?_)⟩
          refine ADB.n ?_
          refine ADB.mv 12 rfl (AOpB.op (ARd.opB (rd_loadN_bx rfl ag_47 rfl rfl (Nat.le_of_ble_eq_true rfl) rfl) ?_))
          refine ADB.n ?_
          refine ADB.mv 14 rfl (AOpB.op (op_call (rsame20_c o x2) rfl (by kernel_rfl) rfl (none) ?_))
          rintro r rfl
          refine ADB.n ?_
          refine ADB.r 15 rfl (rdP_un rfl rfl (fun _ => rfl)) ⟨_, _, rfl, rfl, rfl⟩ ?_
          refine ADB.r 16 rfl (rdP_move rfl rfl) ⟨_, _, rfl, rfl, rfl⟩ ?_
          refine ADB.fk (d := 69) rfl (fun h69 => ?_) (fun h69 => ?_)
          ·skip
           exact (h69 (hx2.trans (put_end hok hw hl (by assumption)).1).symm).elim
          ·skip
           refine ADB.n ?_
           refine ADB.r 17 rfl (rdP_move rfl rfl) ⟨_, _, rfl, rfl, rfl⟩ ?_
           refine ADB.mv 18 rfl (calloR (rend_c 1 (getO (newR (putO f o) f)).2 (getO_ok (newR_ok (by omega) f))) [0] ?_)
           rintro y os' ⟨rfl, rfl⟩
           refine ADB.noR ?_
           refine ADB.r 19 rfl (rdP_bin rfl rfl rfl (fun _ => rfl)) ⟨_, _, rfl, rfl, rfl⟩ ?_
           refine ADB.r 20 rfl (rdP_pick_f rfl rfl rfl) ⟨_, _, rfl, rfl, rfl⟩ ?_
           refine ADB.r 21 rfl (rdP_pick_t rfl rfl rfl) ⟨_, _, rfl, rfl, rfl⟩ ?_
           refine ADB.r 22 rfl (rdP_pick_f rfl rfl rfl) rfl ?_
           refine ADB.done (by kernel_rfl) ?_
           change AW _ _ _ _ _
           refine AW.cd rfl (fun h75 => ?_) (fun h75 => ?_)
           ·skip
            exact absurd (put_end hok hw hl (by assumption)).2 h75
           ·skip
            refine AW.skip ?_
            refine ⟨(), trivial, (by simp only [anys, upds, offs, List.set_cons_zero, List.set_cons_succ]; repeat (first | exact Wk.nil | refine Wk.same ?_ | refine Wk.any ?_)), (by simp only [anys, upds, offs, List.set_cons_zero, List.set_cons_succ]; repeat (first | exact Sk.nil _ | refine Sk.same _ ?_ | refine Sk.scr _ (by decide) ?_))⟩
        ·skip
         refine ADB.n ?_
         refine ADB.s 12 rfl ⟨_, _, rfl, rfl, rfl⟩ ?_
         refine ADB.s 13 rfl ⟨_, _, rfl, rfl, rfl⟩ ?_
         refine ADB.s 14 rfl ⟨_, _, rfl, rfl, rfl⟩ ?_
         refine ADB.s 15 rfl ⟨_, _, rfl, rfl, rfl⟩ ?_
         refine ADB.s 16 rfl ⟨_, _, rfl, rfl, rfl⟩ ?_
         refine ADB.s 17 rfl ⟨_, _, rfl, rfl, rfl⟩ ?_
         refine ADB.s 18 rfl ⟨_, _, rfl, rfl, rfl⟩ ?_
         refine ADB.s 19 rfl ⟨_, _, rfl, rfl, rfl⟩ ?_
         refine ADB.s 20 rfl ⟨_, _, rfl, rfl, rfl⟩ ?_
         refine ADB.r 21 rfl (rdP_pick_f rfl rfl rfl) ⟨_, _, rfl, rfl, rfl⟩ ?_
         refine ADB.r 22 rfl (rdP_pick_f rfl rfl rfl) rfl ?_
         refine ADB.done (by kernel_rfl) ?_
         change AW _ _ _ _ _
         refine AW.cond_f rfl ?_
         refine AW.skip ?_
         refine ⟨(), trivial, (by simp only [anys, upds, offs, List.set_cons_zero, List.set_cons_succ]; repeat (first | exact Wk.nil | refine Wk.same ?_ | refine Wk.any ?_)), (by simp only [anys, upds, offs, List.set_cons_zero, List.set_cons_succ]; repeat (first | exact Sk.nil _ | refine Sk.same _ ?_ | refine Sk.scr _ (by decide) ?_))⟩
      ·rintro u75 gs75 hJ75
       refine AW.norm (by simp only [anys, upds, offs, List.set_cons_zero, List.set_cons_succ]; rfl) (by (try simp only [anys, upds, offs, List.set_cons_zero, List.set_cons_succ]); (try rfl)) ?_
       (try dsimp only at hJ75)
       change AW _ _ _ _ _
       refine AW.seq ?_
       refine AW.seq ?_
       refine AW.region ?_
       have hr1 := get20_rng (l := putO f o) hok (by omega); have hr2 := get20_rng (l := b) hok (by omega)
       refine AL.rm ?_
       refine AL.r (rd_byr_from rfl el_83 rfl rfl (m := 1) rfl (by simp)) ?_
       refine AL.rm ?_
       refine AL.op rfl (AOpB.op (bs_set rfl ap_103 ze_83 rfl rfl ?_))
       refine AL.no ?_
       refine AL.r (rd_len_sl rfl el_103 rfl) ?_
       refine AL.rm ?_
       refine AL.nil ?_
       change AW _ _ _ _ _
       refine AW.block ?_
       refine AW.unroll 3 ?_
       change AW _ _ _ _ _
       refine AW.seq ?_
       refine AW.region ?_
       refine AL.r (rd_bin rfl rfl rfl (fun _ => rfl)) ?_
       refine AL.nil ?_
       change AW _ _ _ _ _
       refine AW.seq ?_
       refine AW.cd rfl (fun h82 => ?_) (fun h82 => ?_)
       ·skip
        refine AW.skip ?_
        change AW _ _ _ _ _
        refine AW.seq ?_
        refine AW.block ?_
        refine AW.seq ?_
        refine AW.region ?_
        refine AL.r (rd_iaddr_sl (n := 0) rfl el_103 rfl rfl rfl rfl rfl) ?_
        refine AL.r (rd_load_ep rfl ag_83 rfl rfl) ?_
        refine AL.ra ?_
        refine AL.nil ?_
        change AW _ _ _ _ _
        refine AW.seq ?_
        refine AW.region ?_
        refine AL.rm ?_
        refine AL.rm ?_
        refine AL.op rfl (calloR (rnew_c (putO f o) (by omega) f 0) [1] ?_)
        rintro y os' ⟨rfl, rfl⟩
        refine AL.noR ?_
        refine AL.ra ?_
        refine AL.nil ?_
        change AW _ _ _ _ _
        refine AW.seq ?_
        refine AW.region ?_
        refine AL.rm ?_
        refine AL.op rfl (calloR (oget_x 1 (newR (putO f o) f) (newR_ok (by omega) f)) [1] ?_)
        rintro y os' ⟨x3, hx3, rfl, rfl⟩
        refine AL.noR ?_
        refine AL.op rfl (AOpB.op (op_alloc 7 rfl ze_47 rfl ?_))
        refine AL.no ?_
        refine AL.op rfl (op_store_ rfl rfl rfl rfl rfl sz_47 ?_)
        refine AL.no ?_
        refine AL.nil ?_
        change AW _ _ _ _ _
        refine AW.seq ?_
        refine AW.region ?_
        refine AL.rm ?_
        refine AL.rm ?_
        refine AL.op rfl (AOpB.op (op_call (roget_x (putO f o) f 0 (by omega) (by omega)) rfl (by kernel_rfl) rfl (none) ?_))
        rintro r ⟨y3, hy3, rfl⟩
        refine AL.no ?_
        refine AL.rm ?_
        refine AL.r (rd_extract rfl rfl rfl) ?_
        refine AL.r (rd_extract rfl rfl rfl) ?_
        refine AL.r (rd_extract rfl rfl rfl) ?_
        refine AL.op rfl (AOpB.op (op_alloc 8 rfl ze_47 rfl ?_))
        refine AL.no ?_
        refine AL.op rfl (op_store_ rfl rfl rfl rfl rfl sz_47 ?_)
        refine AL.no ?_
        refine AL.ra ?_
        refine AL.ra ?_
        refine AL.nil ?_
        change AW _ _ _ _ _
        refine AW.seq ?_
        refine AW.region ?_
        refine AL.rm ?_
        refine AL.rm ?_
        refine AL.op rfl (calloR (rbad_c 1 (getO (newR (putO f o) f)).2) [1] ?_)
        rintro y os' ⟨rfl, rfl⟩
        refine AL.noR ?_
        refine AL.r (rd_beql rfl bo_4 rfl rfl) ?_
        refine AL.rm ?_
        refine AL.fk (d := 101) rfl (fun h101 => ?_) (fun h101 => ?_)
        ·skip
         exact (sim_ne hok h101).elim
        ·skip
         refine AL.n ?_
         refine AL.ro (rd_loadN_bx rfl ag_47 rfl rfl (Nat.le_of_ble_eq_true rfl) rfl) ?_
         refine AL.ro (rd_loadN_bx rfl ag_47 rfl rfl (Nat.le_of_ble_eq_true rfl) rfl) ?_
         refine AL.on rfl rfl rfl (AOpB.op (op_call (rsame20_c x3 y3) rfl (by kernel_rfl) rfl (none) ?_))
         rintro r rfl
         refine AL.no ?_
         refine AL.ro (rd_un rfl rfl (fun _ => rfl)) ?_
         refine AL.r (rd_pick_f rfl rfl rfl) ?_
         refine AL.rm ?_
         refine AL.fk (d := 107) rfl (fun h107 => ?_) (fun h107 => ?_)
         ·skip
          exact (h107 (by rw [hx3, hy3]; exact sim_same hok)).elim
         ·skip
          refine AL.n ?_
          refine AL.ro (rd_move rfl rfl) ?_
          refine AL.ro (rd_move rfl rfl) ?_
          refine AL.fk (d := 109) rfl (fun h109 => ?_) (fun h109 => ?_)
          ·skip
           refine AL.n ?_
           refine AL.ro (rd_move rfl rfl) ?_
           refine AL.on rfl rfl rfl (calloR (rleft_c 1 (getO (newR (putO f o) f)).2 (getO_ok (newR_ok (by omega) f))) [1] ?_)
           rintro y os' ⟨rfl, rfl⟩
           refine AL.noR ?_
           refine AL.ro (rd_move rfl rfl) ?_
           refine AL.ro (rd_len_sl rfl el_83 rfl) ?_
           refine AL.ro (rd_move rfl rfl) ?_
           refine AL.ro (rd_arith_sub rfl rfl rfl (IntWalk.i64_in _ (by omega))) ?_
           refine AL.ro (rd_bin rfl rfl rfl (fun _ => rfl)) ?_
           refine AL.ro (rd_pick_t rfl rfl rfl) ?_
           refine AL.r (rd_pick_f rfl rfl rfl) ?_
           refine AL.nil ?_
           change AW _ _ _ _ _
           refine AW.cd rfl (fun h118 => ?_) (fun h118 => ?_)
           ·skip
            exact absurd (sim_left (l := putO f o) hok (by omega) (by assumption)).1 h118
           ·skip
            refine AW.skip ?_
            change AW _ _ _ _ _
            refine AW.region ?_
            refine AL.r (rd_arith_add rfl rfl rfl (rfl : _ = (1 : Int))) ?_
            refine AL.rm ?_
            refine AL.nil ?_
            change AW _ _ _ _ _
            refine AW.seq ?_
            refine AW.region ?_
            refine AL.r (rd_bin rfl rfl rfl (fun _ => rfl)) ?_
            refine AL.nil ?_
            change AW _ _ _ _ _
            refine AW.seq ?_
            refine AW.cd rfl (fun h82 => ?_) (fun h82 => ?_)
            ·skip
             refine AW.skip ?_
             change AW _ _ _ _ _
             refine AW.seq ?_
             refine AW.block ?_
             refine AW.seq ?_
             refine AW.region ?_
             refine AL.r (rd_iaddr_sl (n := 1) rfl el_103 rfl rfl rfl rfl rfl) ?_
             refine AL.r (rd_load_ep rfl ag_83 rfl rfl) ?_
             refine AL.ra ?_
             refine AL.nil ?_
             change AW _ _ _ _ _
             refine AW.seq ?_
             refine AW.region ?_
             refine AL.rm ?_
             refine AL.rm ?_
             refine AL.op rfl (calloR (rnew_c b (by omega) f 0) [2] ?_)
             rintro y os' ⟨rfl, rfl⟩
             refine AL.noR ?_
             refine AL.ra ?_
             refine AL.nil ?_
             change AW _ _ _ _ _
             refine AW.seq ?_
             refine AW.region ?_
             refine AL.rm ?_
             refine AL.op rfl (calloR (oget_x 1 (newR b f) (newR_ok (by omega) f)) [2] ?_)
             rintro y os' ⟨x3, hx3, rfl, rfl⟩
             refine AL.noR ?_
             refine AL.op rfl (AOpB.op (op_alloc 7 rfl ze_47 rfl ?_))
             refine AL.no ?_
             refine AL.op rfl (op_store_ rfl rfl rfl rfl rfl sz_47 ?_)
             refine AL.no ?_
             refine AL.nil ?_
             change AW _ _ _ _ _
             refine AW.seq ?_
             refine AW.region ?_
             refine AL.rm ?_
             refine AL.rm ?_
             refine AL.op rfl (AOpB.op (op_call (roget_x b f 0 (by omega) (by omega)) rfl (by kernel_rfl) rfl (none) ?_))
             rintro r ⟨y3, hy3, rfl⟩
             refine AL.no ?_
             refine AL.rm ?_
             refine AL.r (rd_extract rfl rfl rfl) ?_
             refine AL.r (rd_extract rfl rfl rfl) ?_
             refine AL.r (rd_extract rfl rfl rfl) ?_
             refine AL.op rfl (AOpB.op (op_alloc 8 rfl ze_47 rfl ?_))
             refine AL.no ?_
             refine AL.op rfl (op_store_ rfl rfl rfl rfl rfl sz_47 ?_)
             refine AL.no ?_
             refine AL.ra ?_
             refine AL.ra ?_
             refine AL.nil ?_
             change AW _ _ _ _ _
             refine AW.seq ?_
             refine AW.region ?_
             refine AL.rm ?_
             refine AL.rm ?_
             refine AL.op rfl (calloR (rbad_c 1 (getO (newR b f)).2) [2] ?_)
             rintro y os' ⟨rfl, rfl⟩
             refine AL.noR ?_
             refine AL.r (rd_beql rfl bo_4 rfl rfl) ?_
             refine AL.rm ?_
             refine AL.fk (d := 101) rfl (fun h101 => ?_) (fun h101 => ?_)
             ·skip
              exact (sim_ne hok h101).elim
             ·skip
              refine AL.n ?_
              refine AL.ro (rd_loadN_bx rfl ag_47 rfl rfl (Nat.le_of_ble_eq_true rfl) rfl) ?_
              refine AL.ro (rd_loadN_bx rfl ag_47 rfl rfl (Nat.le_of_ble_eq_true rfl) rfl) ?_
              refine AL.on rfl rfl rfl (AOpB.op (op_call (rsame20_c x3 y3) rfl (by kernel_rfl) rfl (none) ?_))
              rintro r rfl
              refine AL.no ?_
              refine AL.ro (rd_un rfl rfl (fun _ => rfl)) ?_
              refine AL.r (rd_pick_f rfl rfl rfl) ?_
              refine AL.rm ?_
              refine AL.fk (d := 107) rfl (fun h107 => ?_) (fun h107 => ?_)
              ·skip
               exact (h107 (by rw [hx3, hy3]; exact sim_same hok)).elim
              ·skip
               refine AL.n ?_
               refine AL.ro (rd_move rfl rfl) ?_
               refine AL.ro (rd_move rfl rfl) ?_
               refine AL.fk (d := 109) rfl (fun h109 => ?_) (fun h109 => ?_)
               ·skip
                refine AL.n ?_
                refine AL.ro (rd_move rfl rfl) ?_
                refine AL.on rfl rfl rfl (calloR (rleft_c 1 (getO (newR b f)).2 (getO_ok (newR_ok (by omega) f))) [2] ?_)
                rintro y os' ⟨rfl, rfl⟩
                refine AL.noR ?_
                refine AL.ro (rd_move rfl rfl) ?_
                refine AL.ro (rd_len_sl rfl el_83 rfl) ?_
                refine AL.ro (rd_move rfl rfl) ?_
                refine AL.ro (rd_arith_sub rfl rfl rfl (IntWalk.i64_in _ (by omega))) ?_
                refine AL.ro (rd_bin rfl rfl rfl (fun _ => rfl)) ?_
                refine AL.ro (rd_pick_t rfl rfl rfl) ?_
                refine AL.r (rd_pick_f rfl rfl rfl) ?_
                refine AL.nil ?_
                change AW _ _ _ _ _
                refine AW.cd rfl (fun h118 => ?_) (fun h118 => ?_)
                ·skip
                 exact absurd (sim_left (l := b) hok (by omega) (by assumption)).1 h118
                ·skip
                 refine AW.skip ?_
                 change AW _ _ _ _ _
                 refine AW.region ?_
                 refine AL.r (rd_arith_add rfl rfl rfl (rfl : _ = (2 : Int))) ?_
                 refine AL.rm ?_
                 refine AL.nil ?_
                 change AW _ _ _ _ _
                 refine AW.seq ?_
                 refine AW.region ?_
                 refine AL.r (rd_bin rfl rfl rfl (fun _ => rfl)) ?_
                 refine AL.nil ?_
                 change AW _ _ _ _ _
                 refine AW.seq ?_
                 refine AW.cd rfl (fun h82 => ?_) (fun h82 => ?_)
                 ·skip
                  (first | omega | simp_all)
                 ·skip
                  refine AW.exit ?_
                  change AW _ _ _ _ _
                  refine AW.seq ?_
                  refine AW.region ?_
                  refine AL.ra ?_
                  refine AL.nil ?_
                  change AW _ _ _ _ _
                  refine AW.ret ?_
                  change ResA _ _ _ _ _
                  refine res1 rfl (ResV.tmp rfl) rfl ?_
                  rfl
               ·skip
                refine AL.n ?_
                refine AL.rf ?_
                refine AL.rf ?_
                refine AL.rf ?_
                refine AL.rf ?_
                refine AL.rf ?_
                refine AL.rf ?_
                refine AL.rf ?_
                refine AL.ro (rd_pick_f rfl rfl rfl) ?_
                refine AL.r (rd_pick_f rfl rfl rfl) ?_
                refine AL.nil ?_
                change AW _ _ _ _ _
                refine AW.cond_f rfl ?_
                refine AW.skip ?_
                change AW _ _ _ _ _
                refine AW.region ?_
                refine AL.r (rd_arith_add rfl rfl rfl (rfl : _ = (2 : Int))) ?_
                refine AL.rm ?_
                refine AL.nil ?_
                change AW _ _ _ _ _
                refine AW.seq ?_
                refine AW.region ?_
                refine AL.r (rd_bin rfl rfl rfl (fun _ => rfl)) ?_
                refine AL.nil ?_
                change AW _ _ _ _ _
                refine AW.seq ?_
                refine AW.cd rfl (fun h82 => ?_) (fun h82 => ?_)
                ·skip
                 (first | omega | simp_all)
                ·skip
                 refine AW.exit ?_
                 change AW _ _ _ _ _
                 refine AW.seq ?_
                 refine AW.region ?_
                 refine AL.ra ?_
                 refine AL.nil ?_
                 change AW _ _ _ _ _
                 refine AW.ret ?_
                 change ResA _ _ _ _ _
                 refine res1 rfl (ResV.tmp rfl) rfl ?_
                 rfl
            ·skip
             (first | omega | simp_all)
          ·skip
           refine AL.n ?_
           refine AL.rf ?_
           refine AL.rf ?_
           refine AL.rf ?_
           refine AL.rf ?_
           refine AL.rf ?_
           refine AL.rf ?_
           refine AL.rf ?_
           refine AL.ro (rd_pick_f rfl rfl rfl) ?_
           refine AL.r (rd_pick_f rfl rfl rfl) ?_
           refine AL.nil ?_
           change AW _ _ _ _ _
           refine AW.cond_f rfl ?_
           refine AW.skip ?_
           change AW _ _ _ _ _
           refine AW.region ?_
           refine AL.r (rd_arith_add rfl rfl rfl (rfl : _ = (1 : Int))) ?_
           refine AL.rm ?_
           refine AL.nil ?_
           change AW _ _ _ _ _
           refine AW.seq ?_
           refine AW.region ?_
           refine AL.r (rd_bin rfl rfl rfl (fun _ => rfl)) ?_
           refine AL.nil ?_
           change AW _ _ _ _ _
           refine AW.seq ?_
           refine AW.cd rfl (fun h82 => ?_) (fun h82 => ?_)
           ·skip
            refine AW.skip ?_
            change AW _ _ _ _ _
            refine AW.seq ?_
            refine AW.block ?_
            refine AW.seq ?_
            refine AW.region ?_
            refine AL.r (rd_iaddr_sl (n := 1) rfl el_103 rfl rfl rfl rfl rfl) ?_
            refine AL.r (rd_load_ep rfl ag_83 rfl rfl) ?_
            refine AL.ra ?_
            refine AL.nil ?_
            change AW _ _ _ _ _
            refine AW.seq ?_
            refine AW.region ?_
            refine AL.rm ?_
            refine AL.rm ?_
            refine AL.op rfl (calloR (rnew_c b (by omega) f 0) [2] ?_)
            rintro y os' ⟨rfl, rfl⟩
            refine AL.noR ?_
            refine AL.ra ?_
            refine AL.nil ?_
            change AW _ _ _ _ _
            refine AW.seq ?_
            refine AW.region ?_
            refine AL.rm ?_
            refine AL.op rfl (calloR (oget_x 1 (newR b f) (newR_ok (by omega) f)) [2] ?_)
            rintro y os' ⟨x3, hx3, rfl, rfl⟩
            refine AL.noR ?_
            refine AL.op rfl (AOpB.op (op_alloc 7 rfl ze_47 rfl ?_))
            refine AL.no ?_
            refine AL.op rfl (op_store_ rfl rfl rfl rfl rfl sz_47 ?_)
            refine AL.no ?_
            refine AL.nil ?_
            change AW _ _ _ _ _
            refine AW.seq ?_
            refine AW.region ?_
            refine AL.rm ?_
            refine AL.rm ?_
            refine AL.op rfl (AOpB.op (op_call (roget_x b f 0 (by omega) (by omega)) rfl (by kernel_rfl) rfl (none) ?_))
            rintro r ⟨y3, hy3, rfl⟩
            refine AL.no ?_
            refine AL.rm ?_
            refine AL.r (rd_extract rfl rfl rfl) ?_
            refine AL.r (rd_extract rfl rfl rfl) ?_
            refine AL.r (rd_extract rfl rfl rfl) ?_
            refine AL.op rfl (AOpB.op (op_alloc 8 rfl ze_47 rfl ?_))
            refine AL.no ?_
            refine AL.op rfl (op_store_ rfl rfl rfl rfl rfl sz_47 ?_)
            refine AL.no ?_
            refine AL.ra ?_
            refine AL.ra ?_
            refine AL.nil ?_
            change AW _ _ _ _ _
            refine AW.seq ?_
            refine AW.region ?_
            refine AL.rm ?_
            refine AL.rm ?_
            refine AL.op rfl (calloR (rbad_c 1 (getO (newR b f)).2) [2] ?_)
            rintro y os' ⟨rfl, rfl⟩
            refine AL.noR ?_
            refine AL.r (rd_beql rfl bo_4 rfl rfl) ?_
            refine AL.rm ?_
            refine AL.fk (d := 101) rfl (fun h101 => ?_) (fun h101 => ?_)
            ·skip
             exact (sim_ne hok h101).elim
            ·skip
             refine AL.n ?_
             refine AL.ro (rd_loadN_bx rfl ag_47 rfl rfl (Nat.le_of_ble_eq_true rfl) rfl) ?_
             refine AL.ro (rd_loadN_bx rfl ag_47 rfl rfl (Nat.le_of_ble_eq_true rfl) rfl) ?_
             refine AL.on rfl rfl rfl (AOpB.op (op_call (rsame20_c x3 y3) rfl (by kernel_rfl) rfl (none) ?_))
             rintro r rfl
             refine AL.no ?_
             refine AL.ro (rd_un rfl rfl (fun _ => rfl)) ?_
             refine AL.r (rd_pick_f rfl rfl rfl) ?_
             refine AL.rm ?_
             refine AL.fk (d := 107) rfl (fun h107 => ?_) (fun h107 => ?_)
             ·skip
              exact (h107 (by rw [hx3, hy3]; exact sim_same hok)).elim
             ·skip
              refine AL.n ?_
              refine AL.ro (rd_move rfl rfl) ?_
              refine AL.ro (rd_move rfl rfl) ?_
              refine AL.fk (d := 109) rfl (fun h109 => ?_) (fun h109 => ?_)
              ·skip
               refine AL.n ?_
               refine AL.ro (rd_move rfl rfl) ?_
               refine AL.on rfl rfl rfl (calloR (rleft_c 1 (getO (newR b f)).2 (getO_ok (newR_ok (by omega) f))) [2] ?_)
               rintro y os' ⟨rfl, rfl⟩
               refine AL.noR ?_
               refine AL.ro (rd_move rfl rfl) ?_
               refine AL.ro (rd_len_sl rfl el_83 rfl) ?_
               refine AL.ro (rd_move rfl rfl) ?_
               refine AL.ro (rd_arith_sub rfl rfl rfl (IntWalk.i64_in _ (by omega))) ?_
               refine AL.ro (rd_bin rfl rfl rfl (fun _ => rfl)) ?_
               refine AL.ro (rd_pick_t rfl rfl rfl) ?_
               refine AL.r (rd_pick_f rfl rfl rfl) ?_
               refine AL.nil ?_
               change AW _ _ _ _ _
               refine AW.cd rfl (fun h118 => ?_) (fun h118 => ?_)
               ·skip
                exact absurd (sim_left (l := b) hok (by omega) (by assumption)).1 h118
               ·skip
                refine AW.skip ?_
                change AW _ _ _ _ _
                refine AW.region ?_
                refine AL.r (rd_arith_add rfl rfl rfl (rfl : _ = (2 : Int))) ?_
                refine AL.rm ?_
                refine AL.nil ?_
                change AW _ _ _ _ _
                refine AW.seq ?_
                refine AW.region ?_
                refine AL.r (rd_bin rfl rfl rfl (fun _ => rfl)) ?_
                refine AL.nil ?_
                change AW _ _ _ _ _
                refine AW.seq ?_
                refine AW.cd rfl (fun h82 => ?_) (fun h82 => ?_)
                ·skip
                 (first | omega | simp_all)
                ·skip
                 refine AW.exit ?_
                 change AW _ _ _ _ _
                 refine AW.seq ?_
                 refine AW.region ?_
                 refine AL.ra ?_
                 refine AL.nil ?_
                 change AW _ _ _ _ _
                 refine AW.ret ?_
                 change ResA _ _ _ _ _
                 refine res1 rfl (ResV.tmp rfl) rfl ?_
                 rfl
              ·skip
               refine AL.n ?_
               refine AL.rf ?_
               refine AL.rf ?_
               refine AL.rf ?_
               refine AL.rf ?_
               refine AL.rf ?_
               refine AL.rf ?_
               refine AL.rf ?_
               refine AL.ro (rd_pick_f rfl rfl rfl) ?_
               refine AL.r (rd_pick_f rfl rfl rfl) ?_
               refine AL.nil ?_
               change AW _ _ _ _ _
               refine AW.cond_f rfl ?_
               refine AW.skip ?_
               change AW _ _ _ _ _
               refine AW.region ?_
               refine AL.r (rd_arith_add rfl rfl rfl (rfl : _ = (2 : Int))) ?_
               refine AL.rm ?_
               refine AL.nil ?_
               change AW _ _ _ _ _
               refine AW.seq ?_
               refine AW.region ?_
               refine AL.r (rd_bin rfl rfl rfl (fun _ => rfl)) ?_
               refine AL.nil ?_
               change AW _ _ _ _ _
               refine AW.seq ?_
               refine AW.cd rfl (fun h82 => ?_) (fun h82 => ?_)
               ·skip
                (first | omega | simp_all)
               ·skip
                refine AW.exit ?_
                change AW _ _ _ _ _
                refine AW.seq ?_
                refine AW.region ?_
                refine AL.ra ?_
                refine AL.nil ?_
                change AW _ _ _ _ _
                refine AW.ret ?_
                change ResA _ _ _ _ _
                refine res1 rfl (ResV.tmp rfl) rfl ?_
                rfl
           ·skip
            (first | omega | simp_all)
       ·skip
        (first | omega | simp_all)
    ·skip
     omega
theorem bytes_c : AC Try.prog 14 [o.av, .sc (.int .i64 f), .sl (byA b)] (fun r => r = .s (AB true)) := by
  cases hok : okF f with
  | true =>
    rcases okF_iff.1 hok with h | h
    · exact bytes_1 o f b hw hf h hok
    · exact bytes_2 o f b hw hf h hok
  | false => exact bytes_0 o f b hw hf (fun h => by rw [h] at hok; cases hok) (fun h => by rw [h] at hok; cases hok) hok
end
theorem walk_OpBytes (w : World) (v0 : Value) (o0 : OpD) (ow0 : o0.Wf) (rp0 : RepS AnyB w v0 o0.av) (a1 : Int) (w1 : (Lit.int .i64 a1).wf = true) (v2 : Value) (b2 : List UInt8) (hb2 : b2.length ≤ maxLen) (rp2 : RepS AnyB w v2 (.sl (byA b2))) :
    Calls Try.prog 14 #[v0, .int .i64 a1, v2] w fun e w' => e = .returned (.bool true) ∧ Below w.heap.size w w' :=
  (bytes_c o0 a1 b2 ow0 (i64R_of w1)).law (vs := [v0, .int .i64 a1, v2]) rfl (rep_cons rp0 (rep_cons (.sc _) (rep_cons rp2 rep_nil)))
end Go.Proofs.Ytfjnkhanndkpfaa
