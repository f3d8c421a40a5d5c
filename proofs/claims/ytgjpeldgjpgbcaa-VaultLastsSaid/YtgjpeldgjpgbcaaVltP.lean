/- A vault on a disk, plain: what a crash leaves of a Fold. No conditions. -/
import Derived.Test.YtgjpeldgjpgbcaaVltH
namespace Go.Proofs.Ytgjpeldgjpgbcaa
set_option linter.unusedSimpArgs false
set_option linter.unusedVariables false
open Go.RowKit

section
variable {R : Int} {K : Nat} {F : Files} {d : DiskD} {o m : Nat}
theorem three_crash {D : DiskD} (hok : D.Ok K) (hr : D.room = R) (hl : D.l = F) {x : List UInt8} (hq : D.q = [⟨m, true, 0, []⟩, ⟨o, true, 0, []⟩, ⟨o, false, 0, x⟩]) (keep : Int) : ∃ F', Rest R K F' (crashD D keep) ∧ (F' = F ∨ F' = upd F m [] ∨ ∃ p, p <+: x ∧ F' = upd (upd F m []) o p) := by
  have e : (crashD D keep).n = settleF [⟨m, true, 0, []⟩, ⟨o, true, 0, []⟩, ⟨o, false, 0, x⟩] keep F := by
    show (settleD D keep).l = _
    rw [hok.sl, hq, hl]
  refine ⟨_, rest_of (hok.crash keep) hr rfl rfl e, ?_⟩
  unfold settleF
  split
  · exact .inl rfl
  · right
    unfold settleF
    split
    · exact .inl (by unfold stepF; simp)
    · right
      unfold settleF
      split
      · exact ⟨[], List.nil_prefix, by unfold stepF; simp⟩
      · refine ⟨x.take (cntN ⟨o, false, 0, x⟩ (keep - cntN ⟨m, true, 0, []⟩ keep - cntN ⟨o, true, 0, []⟩ (keep - cntN ⟨m, true, 0, []⟩ keep))).toNat, List.take_prefix _ _, ?_⟩
        unfold settleF stepF
        simp only [if_true, Bool.false_eq_true, if_false, List.take_zero, upd_upd, upd_eq, List.nil_append]
theorem two_cuts {D : DiskD} (hok : D.Ok K) (hr : D.room = R) (hl : D.l = F) (hq : D.q = [⟨m, true, 0, []⟩, ⟨o, true, 0, []⟩]) (keep : Int) : ∃ F', Rest R K F' (crashD D keep) ∧ (F' = F ∨ F' = upd F m [] ∨ ∃ p, p <+: ([] : List UInt8) ∧ F' = upd (upd F m []) o p) := by
  have e : (crashD D keep).n = settleF [⟨m, true, 0, []⟩, ⟨o, true, 0, []⟩] keep F := by
    show (settleD D keep).l = _
    rw [hok.sl, hq, hl]
  refine ⟨_, rest_of (hok.crash keep) hr rfl rfl e, ?_⟩
  unfold settleF
  split
  · exact .inl rfl
  · right
    unfold settleF
    split
    · exact .inl (by unfold stepF; simp)
    · right
      refine ⟨[], List.nil_prefix, ?_⟩
      unfold settleF stepF
      simp
/-- A cut waits. -/
structure Pend (R : Int) (K : Nat) (F : Files) (m : Nat) (d : DiskD) : Prop where
  ok : d.Ok K
  room : d.room = R
  l : d.l = F
  q : d.q = [⟨m, true, 0, []⟩]
  n : d.n = upd F m []
  dark : d.dark = false
theorem Pend.write (h : Pend R K F m d) (ho : o < 4) {b : List UInt8} (hb : 0 < b.length) (hR : ((tot (upd F m []) + b.length : Nat) : Int) ≤ R + ((upd F m []) o).length) :
    (wrR d o b = 0 ∧ Rest R (K + 2) (upd (upd F m []) o b) (wrD d o b) ∧ (wrD d o b).fused = d.fused) ∨ (wrR d o b = 10 ∧ d.fused = true ∧ (wrD d o b).dark = true ∧ ∀ keep, ∃ F', Rest R (K + 2) F' (crashD (wrD d o b) keep) ∧ (F' = F ∨ F' = upd F m [] ∨ ∃ p, p <+: b ∧ F' = upd (upd F m []) o p)) := by
  have hn := h.n
  rcases cut_ok h.ok ho (n := 0) (Nat.zero_le _) h.dark with ⟨c1, c2, c3, c4⟩ | ⟨c1, c2, c3⟩
  · right
    have c1' : cutR d o 0 = 10 := c1
    have c2' : cutD d o 0 = burnD d 1 := c2
    have e1 : wrR d o b = 10 := by unfold wrR; rw [if_neg (by rw [c1']; decide), c1']
    have e2 : wrD d o b = burnD d 1 := by unfold wrD; rw [if_neg (by rw [c1']; decide), c2']
    rw [e1, e2]
    refine ⟨rfl, c4, c3, fun keep => ?_⟩
    obtain ⟨F', g1, g2⟩ := one_crash (F := F) (R := R) (o := m) (h.ok.burn 1 (by omega)) h.room h.l h.q keep
    exact ⟨F', g1.mono (by omega), g2.imp id .inl⟩
  · have c1' : cutR d o 0 = 0 := c1
    have c2' : cutD d o 0 = cutD1 (burnD d 1) o 0 := c2
    have c3' : (cutD d o 0).dark = false := c3
    have k1 := cutD_Ok h.ok ho 0
    have r1 : (cutD d o 0).room = R := by rw [c2']; exact h.room
    have n1 : (cutD d o 0).n = upd (upd F m []) o [] := by rw [c2']; show upd d.n o ((d.n o).take 0) = _; rw [hn, List.take_zero]
    have l1 : (cutD d o 0).l = F := by rw [c2']; exact h.l
    have q1 : (cutD d o 0).q = [⟨m, true, 0, []⟩, ⟨o, true, 0, []⟩] := by rw [c2']; show d.q ++ [_] = _; rw [h.q]; rfl
    have f1 : (cutD d o 0).fused = d.fused := by rw [c2']; rfl
    have t1 := tot_upd (s := upd F m []) ho []
    have hleft : ¬ leftD (cutD d o 0) < b.length := by rw [leftD_eq, r1, n1]; simp at t1; omega
    have hbn := burnN_le' k1 (n := b.length) (by omega)
    have hfu : (burnD (cutD d o 0) b.length).dark = true → d.fused = true := fun hdk => by
      cases hx : d.fused with
      | true => rfl
      | false => rw [burnD_dark (f1.trans hx), c3'] at hdk; cases hdk
    by_cases h0 : 0 < burnN (cutD d o 0) b.length
    · obtain ⟨a1, a2⟩ := app_go (i := o) c3' hleft h0 rfl
      have k2 := appD_Ok k1 ho b
      have q2 : (appD (cutD d o 0) o b).q = [⟨m, true, 0, []⟩, ⟨o, true, 0, []⟩, ⟨o, false, 0, b.take (burnN (cutD d o 0) b.length).toNat⟩] := by rw [a2]; show (cutD d o 0).q ++ [_] = _; rw [q1]; rfl
      have l2 : (appD (cutD d o 0) o b).l = F := by rw [a2]; exact l1
      have r2 : (appD (cutD d o 0) o b).room = R := by rw [a2]; exact r1
      have d2 : (appD (cutD d o 0) o b).dark = (burnD (cutD d o 0) b.length).dark := by rw [a2]; rfl
      cases hdk : (burnD (cutD d o 0) b.length).dark with
      | true =>
        right
        rw [hdk] at a1 d2
        have a1' : appR (cutD d o 0) b = 10 := a1
        have e1 : wrR d o b = 10 := by unfold wrR; rw [if_pos c1', if_neg (by rw [a1']; decide), a1']
        have e2 : wrD d o b = appD (cutD d o 0) o b := by unfold wrD; rw [if_pos c1', if_neg (by rw [a1']; decide)]
        rw [e1, e2]
        refine ⟨rfl, hfu hdk, d2, fun keep => ?_⟩
        obtain ⟨F', g1, g2⟩ := three_crash k2 r2 l2 q2 keep
        exact ⟨F', g1, g2.imp id (Or.imp id fun ⟨p, p1, p2⟩ => ⟨p, p1.trans (List.take_prefix _ _), p2⟩)⟩
      | false =>
        rw [hdk] at a1 d2
        have a1' : appR (cutD d o 0) b = 0 := a1
        have hfull := burn_full hdk
        rw [hfull, Int.toNat_natCast, List.take_length] at q2
        have n2 : (appD (cutD d o 0) o b).n = upd (upd F m []) o b := by
          rw [a2, hfull, Int.toNat_natCast, List.take_length]
          show upd (cutD d o 0).n o ((cutD d o 0).n o ++ b) = _
          rw [n1, upd_eq, upd_upd, List.nil_append]
        have e1 : wrR d o b = syncR (appD (cutD d o 0) o b) := by unfold wrR; rw [if_pos c1', if_pos a1']
        have e2 : wrD d o b = syncD (appD (cutD d o 0) o b) := by unfold wrD; rw [if_pos c1', if_pos a1']
        rcases (sync_ok k2).2 d2 with ⟨s1, _, s3⟩ | ⟨s1, s2, s3, s4⟩
        · left
          rw [r2, n2] at s3
          rw [e1, e2]
          exact ⟨s1, s3, by rw [syncD_fused, a2]; exact f1⟩
        · right
          rw [e1, e2, s2]
          refine ⟨s1, ?_, s3, fun keep => ?_⟩
          · rw [a2] at s4; exact f1.symm.trans s4
          · obtain ⟨F', g1, g2⟩ := three_crash (k2.burn 1 (by omega)) r2 l2 q2 keep
            exact ⟨F', g1, g2⟩
    · right
      obtain ⟨a1, a2⟩ := app_no (i := o) c3' hleft h0 rfl
      have k2 := appD_Ok k1 ho b
      cases hdk : (burnD (cutD d o 0) b.length).dark with
      | true =>
        rw [hdk] at a1
        have a1' : appR (cutD d o 0) b = 10 := a1
        have e1 : wrR d o b = 10 := by unfold wrR; rw [if_pos c1', if_neg (by rw [a1']; decide), a1']
        have e2 : wrD d o b = appD (cutD d o 0) o b := by unfold wrD; rw [if_pos c1', if_neg (by rw [a1']; decide)]
        rw [e1, e2]
        refine ⟨rfl, hfu hdk, by rw [a2]; exact hdk, fun keep => ?_⟩
        obtain ⟨F', g1, g2⟩ := two_cuts (F := F) (R := R) (o := o) (m := m) k2 (by rw [a2]; exact r1) (by rw [a2]; exact l1) (by rw [a2]; exact q1) keep
        exact ⟨F', g1, g2.imp id (Or.imp id fun ⟨p, p1, p2⟩ => ⟨[], List.nil_prefix, by rw [p2, List.prefix_nil.1 p1]⟩)⟩
      | false =>
        have := burn_full hdk
        omega
end
end Go.Proofs.Ytgjpeldgjpgbcaa
