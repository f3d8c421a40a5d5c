/- Slots, plain: what counts, what a put leaves behind a crash. No conditions. -/
import Derived.Test.YtgjpeldgjpgbcaaSltC
namespace Go.Proofs.Ytgjpeldgjpgbcaa
set_option linter.unusedSimpArgs false
set_option linter.unusedVariables false
open Go.RowKit

section
variable {t : Nat → Nat}
theorem slot_empty : slotN t [] = (0, []) := slot_none fget_nil
theorem slot_snap {e : Nat} {b : List UInt8} (he : 1 ≤ e ∧ e ≤ 4611686018427387904) (hb : b.length ≤ 59992) : slotN t (frameN t (snapN e b)) = (e, b) := by
  have hl := snapN_len e b
  have h := fget_frame t (snapN e b) [] (by omega)
  rw [List.append_nil] at h
  have h8 : (snapN e b).take 8 = leB 8 e := by unfold snapN; rw [List.take_append_of_le_length (by rw [leB_len]; omega), List.take_of_length_le (by rw [leB_len]; omega)]
  have hd : (snapN e b).drop 8 = b := by unfold snapN; rw [List.drop_append_of_le_length (by rw [leB_len]; omega), List.drop_of_length_le (by rw [leB_len]; omega), List.nil_append]
  have hn : num ((snapN e b).take 8) = e := by rw [h8, num_leB, Nat.mod_eq_of_lt (by omega)]
  rw [slot_is h (by rw [frameN_len]; omega) (by rw [hn]; omega), hn, hd]
theorem slot_torn {x p : List UInt8} (hx : x.length ≤ 60000) (hp : p <+: frameN t x) (hlt : p.length < (frameN t x).length) : slotN t p = (0, []) := slot_none (fget_torn hx hp (by rw [frameN_len] at hlt; exact hlt))
theorem slot_behind {x j : List UInt8} (hx : x.length ≤ 60000) (hj : 0 < j.length) : slotN t (frameN t x ++ j) = (0, []) := slot_off (fget_frame t x j hx) (.inl (by rw [List.length_append, frameN_len]; omega))
/-- Which of two files counts, with which epoch and snapshot. -/
structure SI (t : Nat → Nat) (F : Files) (f c E : Nat) (h : List UInt8) : Prop where
  c2 : c < 2
  z : E = 0 → c = 1 ∧ h = [] ∧ (slotN t (F f)).1 = 0 ∧ (slotN t (F (f + 1))).1 = 0
  s : 0 < E → slotN t (F (f + c)) = (E, h) ∧ (slotN t (F (f + (1 - c)))).1 ≤ E ∧ (c = 1 → (slotN t (F (f + (1 - c)))).1 < E)
variable {F : Files} {f c E : Nat} {hh : List UInt8}
theorem SI.opened {d : DiskD} (h : SI t d.n f c E hh) : openS t d f = ⟨f, c, E, hh, false⟩ := by
  have hc := h.c2
  rcases Nat.eq_zero_or_pos E with h0 | h0
  · obtain ⟨rfl, rfl, a, b⟩ := h.z h0
    rw [opS4 (by rw [a]; decide) (by rw [b]; decide), h0]; rfl
  · obtain ⟨a, b, b2⟩ := h.s h0
    rcases (by omega : c = 0 ∨ c = 1) with rfl | rfl
    · have a' : slotN t (d.n f) = (E, hh) := a
      have b' : (slotN t (d.n (f + 1))).1 ≤ E := b
      rw [opS2 (by rw [a']; simp; omega) (by rw [a']; simp; omega), a']; rfl
    · have a' : slotN t (d.n (f + 1)) = (E, hh) := a
      have b' : (slotN t (d.n f)).1 < E := b2 rfl
      by_cases hz : (0 : Int) < ((slotN t (d.n f)).1 : Int)
      · rw [opS1 hz (by rw [a']; simp; omega), a']; rfl
      · rw [opS3 hz (by rw [a']; simp; omega), a']; rfl
theorem upd_ne {α : Type} {g : Nat → α} {i j : Nat} {v : α} (h : j ≠ i) : upd g i v j = g j := if_neg h
theorem upd_eq {α : Type} {g : Nat → α} {i : Nat} {v : α} : upd g i v i = v := if_pos rfl
theorem SI.full (h : SI t F f c E hh) (hE : E < 4611686018427387904) {x : List UInt8} (hx : x.length ≤ 59992) : SI t (upd F (f + (1 - c)) (frameN t (snapN (E + 1) x))) f (1 - c) (E + 1) x := by
  have hc := h.c2
  have key : (slotN t (upd F (f + (1 - c)) (frameN t (snapN (E + 1) x)) (f + (1 - (1 - c))))).1 < E + 1 := by
    rw [show f + (1 - (1 - c)) = f + c by omega, upd_ne (by omega)]
    rcases Nat.eq_zero_or_pos E with h0 | h0
    · obtain ⟨rfl, _, a, b⟩ := h.z h0
      rw [b]; omega
    · rw [(h.s h0).1]; exact Nat.lt_succ_self E
  refine ⟨by omega, fun e => by omega, fun _ => ⟨?_, Nat.le_of_lt key, fun _ => key⟩⟩
  rw [upd_eq, slot_snap (by omega) hx]
theorem SI.torn (h : SI t F f c E hh) {p : List UInt8} (hp : (slotN t p).1 = 0) : SI t (upd F (f + (1 - c)) p) f c E hh := by
  have hc := h.c2
  refine ⟨hc, fun h0 => ?_, fun h0 => ?_⟩
  · obtain ⟨rfl, rfl, a, b⟩ := h.z h0
    exact ⟨rfl, rfl, by rw [show f + (1 - 1) = f by omega, upd_eq]; exact hp, by rw [upd_ne (by omega)]; exact b⟩
  · obtain ⟨a, b, _⟩ := h.s h0
    exact ⟨by rw [upd_ne (by omega)]; exact a, by rw [upd_eq, hp]; exact Nat.zero_le _, fun _ => by rw [upd_eq, hp]; exact h0⟩
theorem SI.other (h : SI t F f c E hh) {i : Nat} {x : List UInt8} (hi : i ≠ f ∧ i ≠ f + 1) : SI t (upd F i x) f c E hh := by
  have hc := h.c2
  refine ⟨hc, fun h0 => ?_, fun h0 => ?_⟩
  · rw [upd_ne (by omega), upd_ne (by omega)]; exact h.z h0
  · rw [upd_ne (by omega), upd_ne (by omega)]; exact h.s h0
theorem SI.same {F' : Files} (h : SI t F f c E hh) (h1 : F' f = F f) (h2 : F' (f + 1) = F (f + 1)) : SI t F' f c E hh := by
  have hc := h.c2
  have e : F' (f + c) = F (f + c) := by rcases (by omega : c = 0 ∨ c = 1) with rfl | rfl <;> assumption
  have e' : F' (f + (1 - c)) = F (f + (1 - c)) := by rcases (by omega : c = 0 ∨ c = 1) with rfl | rfl <;> assumption
  refine ⟨hc, fun h0 => ?_, fun h0 => ?_⟩
  · rw [h1, h2]; exact h.z h0
  · rw [e, e']; exact h.s h0
/-- Of any two files one counts. -/
theorem si_any (t : Nat → Nat) (F : Files) (f : Nat) : ∃ c E h, SI t F f c E h ∧ E ≤ 4611686018427387904 ∧ h.length ≤ (F f).length + (F (f + 1)).length ∧ ((slotN t (F f)).1 = 0 ∧ (slotN t (F (f + 1))).1 = 0 ∧ c = 1 ∧ E = 0 ∧ h = [] ∨ ¬((slotN t (F f)).1 = 0 ∧ (slotN t (F (f + 1))).1 = 0) ∧ (slotN t (F (f + 1))).1 ≤ (slotN t (F f)).1 ∧ c = 0 ∧ slotN t (F f) = (E, h) ∨ ¬((slotN t (F f)).1 = 0 ∧ (slotN t (F (f + 1))).1 = 0) ∧ ¬(slotN t (F (f + 1))).1 ≤ (slotN t (F f)).1 ∧ c = 1 ∧ slotN t (F (f + 1)) = (E, h)) := by
  obtain ⟨l1, l2⟩ := slot_le t (F f)
  obtain ⟨l3, l4⟩ := slot_le t (F (f + 1))
  by_cases hz : (slotN t (F f)).1 = 0 ∧ (slotN t (F (f + 1))).1 = 0
  · exact ⟨1, 0, [], ⟨by omega, fun _ => ⟨rfl, rfl, hz⟩, fun h => by omega⟩, by omega, by simp, .inl ⟨hz.1, hz.2, rfl, rfl, rfl⟩⟩
  · by_cases hg : (slotN t (F (f + 1))).1 ≤ (slotN t (F f)).1
    · exact ⟨0, (slotN t (F f)).1, (slotN t (F f)).2, ⟨by omega, fun h => by omega, fun _ => ⟨rfl, hg, fun h => by omega⟩⟩, l1, by omega, .inr (.inl ⟨hz, hg, rfl, rfl⟩)⟩
    · exact ⟨1, (slotN t (F (f + 1))).1, (slotN t (F (f + 1))).2, ⟨by omega, fun h => by omega, fun _ => ⟨rfl, by simp only [Nat.sub_self, Nat.add_zero]; omega, fun _ => by simp only [Nat.sub_self, Nat.add_zero]; omega⟩⟩, l3, by omega, .inr (.inr ⟨hz, hg, rfl, rfl⟩)⟩
theorem si_new (t : Nat → Nat) (f : Nat) (h0 : F f = []) (h1 : F (f + 1) = []) : SI t F f 1 0 [] := ⟨by omega, fun _ => ⟨rfl, rfl, by rw [h0, slot_empty], by rw [h1, slot_empty]⟩, fun h => by omega⟩
end
/-! A file is written anew. -/
section
variable {R : Int} {K : Nat} {F : Files} {d : DiskD} {o : Nat}
theorem Gro.self (h : Gro R K F (fun _ => []) d) (keep : Int) : Rest R K F (crashD d keep) := by
  obtain ⟨r, h1, h2, _⟩ := h.crash keep
  have e : (fun i => F i ++ r i) = F := by
    funext i
    rcases Nat.lt_or_ge i 4 with hi | hi
    · rw [List.prefix_nil.1 (h1 i hi), List.append_nil]
    · have a := h2.gro.ok.nbig i hi
      rw [h2.n] at a
      obtain ⟨a1, a2⟩ := List.append_eq_nil_iff.1 a
      rw [a1, a2]; rfl
  rw [e] at h2
  exact h2
theorem upd_upd {α : Type} (g : Nat → α) (i : Nat) (v w : α) : upd (upd g i v) i w = upd g i w := by funext j; unfold upd; split <;> rfl
theorem two_crash {D : DiskD} (hok : D.Ok K) (hr : D.room = R) (hl : D.l = F) {x : List UInt8} (hq : D.q = [⟨o, true, 0, []⟩, ⟨o, false, 0, x⟩]) (keep : Int) : ∃ F', Rest R K F' (crashD D keep) ∧ (F' = F ∨ ∃ p, p <+: x ∧ F' = upd F o p) := by
  have e : (crashD D keep).n = settleF [⟨o, true, 0, []⟩, ⟨o, false, 0, x⟩] keep F := by
    show (settleD D keep).l = _
    rw [hok.sl, hq, hl]
  refine ⟨_, rest_of (hok.crash keep) hr rfl rfl e, ?_⟩
  unfold settleF
  split
  · exact .inl rfl
  · right
    unfold settleF
    split
    · exact ⟨[], List.nil_prefix, by unfold stepF; simp⟩
    · refine ⟨x.take (cntN ⟨o, false, 0, x⟩ (keep - cntN ⟨o, true, 0, []⟩ keep)).toNat, List.take_prefix _ _, ?_⟩
      unfold settleF stepF
      simp only [if_true, Bool.false_eq_true, if_false, List.take_zero, upd_upd, upd_eq, List.nil_append]
theorem one_crash {D : DiskD} (hok : D.Ok K) (hr : D.room = R) (hl : D.l = F) (hq : D.q = [⟨o, true, 0, []⟩]) (keep : Int) : ∃ F', Rest R K F' (crashD D keep) ∧ (F' = F ∨ F' = upd F o []) := by
  have e : (crashD D keep).n = settleF [⟨o, true, 0, []⟩] keep F := by
    show (settleD D keep).l = _
    rw [hok.sl, hq, hl]
  refine ⟨_, rest_of (hok.crash keep) hr rfl rfl e, ?_⟩
  unfold settleF
  split
  · exact .inl rfl
  · right
    unfold settleF stepF
    simp
/-- Written or not; what a crash leaves then. -/
theorem Rest.write (h : Rest R K F d) (ho : o < 4) {b : List UInt8} (hb : 0 < b.length) (hR : ((tot F + b.length : Nat) : Int) ≤ R + (F o).length) :
    (wrR d o b = 0 ∧ Rest R (K + 2) (upd F o b) (wrD d o b) ∧ (wrD d o b).fused = d.fused) ∨ (wrR d o b = 10 ∧ d.fused = true ∧ (wrD d o b).dark = true ∧ ∀ keep, ∃ F', Rest R (K + 2) F' (crashD (wrD d o b) keep) ∧ (F' = F ∨ ∃ p, p <+: b ∧ F' = upd F o p)) := by
  have hn := h.n
  rcases cut_ok h.gro.ok ho (n := 0) (Nat.zero_le _) h.dark with ⟨c1, c2, c3, c4⟩ | ⟨c1, c2, c3⟩
  · right
    have c1' : cutR d o 0 = 10 := c1
    have c2' : cutD d o 0 = burnD d 1 := c2
    have e1 : wrR d o b = 10 := by unfold wrR; rw [if_neg (by rw [c1']; decide), c1']
    have e2 : wrD d o b = burnD d 1 := by unfold wrD; rw [if_neg (by rw [c1']; decide), c2']
    rw [e1, e2]
    exact ⟨rfl, c4, c3, fun keep => ⟨F, ((h.gro.burn 1 (by omega) (.inl c3)).self keep).mono (by omega), .inl rfl⟩⟩
  · have c1' : cutR d o 0 = 0 := c1
    have c2' : cutD d o 0 = cutD1 (burnD d 1) o 0 := c2
    have c3' : (cutD d o 0).dark = false := c3
    have k1 := cutD_Ok h.gro.ok ho 0
    have r1 : (cutD d o 0).room = R := by rw [c2']; exact h.gro.room
    have n1 : (cutD d o 0).n = upd F o [] := by rw [c2']; show upd d.n o ((d.n o).take 0) = _; rw [hn, List.take_zero]
    have l1 : (cutD d o 0).l = F := by rw [c2']; exact h.gro.l
    have q1 : (cutD d o 0).q = [⟨o, true, 0, []⟩] := by rw [c2']; show d.q ++ [_] = _; rw [h.q]; rfl
    have f1 : (cutD d o 0).fused = d.fused := by rw [c2']; rfl
    have t1 := tot_upd (s := F) ho []
    have hleft : ¬ leftD (cutD d o 0) < b.length := by rw [leftD_eq, r1, n1]; simp at t1; omega
    have hbn := burnN_le' k1 (n := b.length) (by omega)
    have hfu : (burnD (cutD d o 0) b.length).dark = true → d.fused = true := fun hdk => by
      cases hx : d.fused with
      | true => rfl
      | false => rw [burnD_dark (f1.trans hx), c3'] at hdk; cases hdk
    by_cases h0 : 0 < burnN (cutD d o 0) b.length
    · obtain ⟨a1, a2⟩ := app_go (i := o) c3' hleft h0 rfl
      have k2 := appD_Ok k1 ho b
      have q2 : (appD (cutD d o 0) o b).q = [⟨o, true, 0, []⟩, ⟨o, false, 0, b.take (burnN (cutD d o 0) b.length).toNat⟩] := by rw [a2]; show (cutD d o 0).q ++ [_] = _; rw [q1]; rfl
      have l2 : (appD (cutD d o 0) o b).l = F := by rw [a2]; exact l1
      have r2 : (appD (cutD d o 0) o b).room = R := by rw [a2]; exact r1
      have d2 : (appD (cutD d o 0) o b).dark = (burnD (cutD d o 0) b.length).dark := by rw [a2]; rfl
      cases hdk : (burnD (cutD d o 0) b.length).dark with
      | true =>
        right
        rw [hdk] at a1 d2
        have a1' : appR (cutD d o 0) b = 10 := a1
        have e1 : wrR d o b = 10 := by unfold wrR; rw [if_pos c1', if_neg (by rw [a1']; decide), a1']
        have e2 : wrD d o b = appD (cutD d o 0) o b := by unfold wrD; rw [if_pos c1', if_neg (by rw [a1']; decide)]
        rw [e1, e2]
        refine ⟨rfl, hfu hdk, d2, fun keep => ?_⟩
        obtain ⟨F', g1, g2⟩ := two_crash k2 r2 l2 q2 keep
        exact ⟨F', g1, g2.imp id fun ⟨p, p1, p2⟩ => ⟨p, p1.trans (List.take_prefix _ _), p2⟩⟩
      | false =>
        rw [hdk] at a1 d2
        have a1' : appR (cutD d o 0) b = 0 := a1
        have hfull := burn_full hdk
        rw [hfull, Int.toNat_natCast, List.take_length] at q2
        have n2 : (appD (cutD d o 0) o b).n = upd F o b := by
          rw [a2, hfull, Int.toNat_natCast, List.take_length]
          show upd (cutD d o 0).n o ((cutD d o 0).n o ++ b) = _
          rw [n1, upd_eq, upd_upd, List.nil_append]
        have e1 : wrR d o b = syncR (appD (cutD d o 0) o b) := by unfold wrR; rw [if_pos c1', if_pos a1']
        have e2 : wrD d o b = syncD (appD (cutD d o 0) o b) := by unfold wrD; rw [if_pos c1', if_pos a1']
        rcases (sync_ok k2).2 d2 with ⟨s1, _, s3⟩ | ⟨s1, s2, s3, s4⟩
        · left
          rw [r2, n2] at s3
          rw [e1, e2]
          exact ⟨s1, s3, by rw [syncD_fused, a2]; exact f1⟩
        · right
          rw [e1, e2, s2]
          refine ⟨s1, ?_, s3, fun keep => ?_⟩
          · rw [a2] at s4; exact f1.symm.trans s4
          · obtain ⟨F', g1, g2⟩ := two_crash (k2.burn 1 (by omega)) r2 l2 q2 keep
            exact ⟨F', g1, g2⟩
    · right
      obtain ⟨a1, a2⟩ := app_no (i := o) c3' hleft h0 rfl
      have k2 := appD_Ok k1 ho b
      cases hdk : (burnD (cutD d o 0) b.length).dark with
      | true =>
        rw [hdk] at a1
        have a1' : appR (cutD d o 0) b = 10 := a1
        have e1 : wrR d o b = 10 := by unfold wrR; rw [if_pos c1', if_neg (by rw [a1']; decide), a1']
        have e2 : wrD d o b = appD (cutD d o 0) o b := by unfold wrD; rw [if_pos c1', if_neg (by rw [a1']; decide)]
        rw [e1, e2]
        refine ⟨rfl, hfu hdk, by rw [a2]; exact hdk, fun keep => ?_⟩
        obtain ⟨F', g1, g2⟩ := one_crash (F := F) (R := R) (o := o) k2 (by rw [a2]; exact r1) (by rw [a2]; exact l1) (by rw [a2]; exact q1) keep
        exact ⟨F', g1, g2.imp id fun e => ⟨[], List.nil_prefix, e⟩⟩
      | false =>
        have := burn_full hdk
        omega
end
end Go.Proofs.Ytgjpeldgjpgbcaa
