/- A vault on a disk, plain: what waits is cuts of one file and bytes for another one; what a crash leaves. No conditions. (Several texts in one.) -/
import Derived.Test.YtgjpeldgjpgbcaaVltT
import Derived.Test.YtgjpeldgjpgbcaaVltU
import Derived.Test.YtgjpeldgjpgbcaaVltX
import Derived.Test.YtgjpeldgjpgbcaaVltQ
/- A vault on a disk, plain: what waits is cuts of one file and bytes for another one; what a crash leaves. No conditions. -/
namespace Go.Proofs.Ytgjpeldgjpgbcaa
set_option linter.unusedSimpArgs false
set_option linter.unusedVariables false
set_option maxRecDepth 100000
open Go.RowKit

/-- Of what waits: cuts of m to nothing, bytes that come to f. -/
def QI (m f : Nat) (q : List DeedD) : Prop := ∀ w ∈ q, (w.file = m ∧ w.cut = true ∧ w.size = 0 ∧ w.bytes = []) ∨ (w.file = f ∧ w.cut = false)
theorem QI.nil {m f : Nat} : QI m f [] := fun w hw => by cases hw
theorem QI.app {m f : Nat} {q r : List DeedD} (h : QI m f q) (h2 : QI m f r) : QI m f (q ++ r) := fun w hw => (List.mem_append.1 hw).elim (h w) (h2 w)
theorem QI.cut {m f : Nat} : QI m f [⟨m, true, 0, []⟩] := fun w hw => by rw [List.mem_singleton.1 hw]; exact .inl ⟨rfl, rfl, rfl, rfl⟩
theorem QI.add {m f : Nat} {x : List UInt8} : QI m f [⟨f, false, 0, x⟩] := fun w hw => by rw [List.mem_singleton.1 hw]; exact .inr ⟨rfl, rfl⟩
theorem QI.cons {m f : Nat} {w : DeedD} {q : List DeedD} (h : QI m f (w :: q)) : QI m f q := fun x hx => h x (List.mem_cons_of_mem _ hx)
theorem step_cut {w : DeedD} (hc : w.cut = true) (hs : w.size = 0) (n : Nat) (s : Files) : stepF w n s = upd s w.file [] := by unfold stepF; rw [if_pos hc, hs, List.take_zero]
theorem step_add {w : DeedD} (hc : w.cut = false) (n : Nat) (s : Files) : stepF w n s = upd s w.file (s w.file ++ w.bytes.take n) := by unfold stepF; rw [if_neg (by rw [hc]; decide)]
theorem count_add {w : DeedD} (hc : w.cut = false) : w.count = w.bytes.length := by unfold DeedD.count; rw [hc]; rfl
theorem settle_qi {m f : Nat} (hmf : m ≠ f) : ∀ (q : List DeedD) (s : Files) (kp : Int), QI m f q → ∃ p, p <+: qf q f ∧ settleF q kp s f = s f ++ p ∧ (settleF q kp s m = s m ∨ settleF q kp s m = []) ∧ ∀ i, i ≠ m → i ≠ f → settleF q kp s i = s i
  | [], s, kp, _ => ⟨[], List.prefix_refl _, by simp [settleF], .inl rfl, fun i _ _ => rfl⟩
  | w :: q, s, kp, h => by
    by_cases h0 : cntN w kp ≤ 0
    · have e : settleF (w :: q) kp s = s := by unfold settleF; rw [if_pos h0]
      rw [e]
      exact ⟨[], List.nil_prefix, by simp, .inl rfl, fun i _ _ => rfl⟩
    · have e : settleF (w :: q) kp s = settleF q (kp - cntN w kp) (stepF w (cntN w kp).toNat s) := by rw [settleF, if_neg h0]
      rw [e]
      rcases h w List.mem_cons_self with ⟨h1, h2, h3, h4⟩ | ⟨h1, h2⟩
      · obtain ⟨p, p1, p2, p3, p4⟩ := settle_qi hmf q (stepF w (cntN w kp).toNat s) (kp - cntN w kp) h.cons
        rw [step_cut h2 h3, h1] at p2 p3 p4 ⊢
        refine ⟨p, by rw [qf, h4, ite_self, List.nil_append]; exact p1, by rw [p2, upd_ne (Ne.symm hmf)], .inr ?_, fun i hi hj => by rw [p4 i hi hj, upd_ne hi]⟩
        rcases p3 with p3 | p3
        · rw [p3, upd_eq]
        · exact p3
      · have hq : qf (w :: q) f = w.bytes ++ qf q f := by rw [qf, if_pos h1.symm]
        rcases cntN_full (w := w) (kp := kp) (by omega) with e2 | e2
        · rw [settleF_stop q _ e2, step_add h2, h1, hq]
          exact ⟨_, (List.take_prefix _ _).trans (List.prefix_append _ _), upd_eq, .inl (upd_ne hmf), fun i _ hj => upd_ne hj⟩
        · obtain ⟨p, p1, p2, p3, p4⟩ := settle_qi hmf q (stepF w (cntN w kp).toNat s) (kp - cntN w kp) h.cons
          rw [step_add h2, e2, count_add h2, List.take_length, h1] at p2 p3 p4
          rw [step_add h2, e2, count_add h2, List.take_length, h1, hq]
          refine ⟨w.bytes ++ p, (List.prefix_append_right_inj _).2 p1, by rw [p2, upd_eq, List.append_assoc], ?_, fun i hi hj => by rw [p4 i hi hj, upd_ne hj]⟩
          rw [upd_ne hmf] at p3
          exact p3
theorem all_qi {m f : Nat} (hmf : m ≠ f) : ∀ (q : List DeedD) (s : Files), QI m f q → allF q s f = s f ++ qf q f ∧ (allF q s m = s m ∨ allF q s m = []) ∧ ∀ i, i ≠ m → i ≠ f → allF q s i = s i
  | [], s, _ => ⟨by simp [allF, qf], .inl rfl, fun i _ _ => rfl⟩
  | w :: q, s, h => by
    obtain ⟨p2, p3, p4⟩ := all_qi hmf q (stepF w w.count s) h.cons
    rw [allF]
    rcases h w List.mem_cons_self with ⟨h1, h2, h3, h4⟩ | ⟨h1, h2⟩
    · rw [step_cut h2 h3, h1] at p2 p3 p4 ⊢
      refine ⟨by rw [p2, upd_ne (Ne.symm hmf), qf, h4, ite_self, List.nil_append], .inr ?_, fun i hi hj => by rw [p4 i hi hj, upd_ne hi]⟩
      rcases p3 with p3 | p3
      · rw [p3, upd_eq]
      · exact p3
    · rw [step_add h2, count_add h2, List.take_length, h1] at p2 p3 p4 ⊢
      refine ⟨by rw [p2, upd_eq, qf, if_pos h1.symm, List.append_assoc], ?_, fun i hi hj => by rw [p4 i hi hj, upd_ne hj]⟩
      rw [upd_ne hmf] at p3
      exact p3
theorem settle_app : ∀ (q r : List DeedD) (kp : Int) (s : Files), ∃ kp', settleF (q ++ r) kp s = settleF q kp s ∨ settleF (q ++ r) kp s = settleF r kp' (allF q s)
  | [], r, kp, s => ⟨kp, .inr rfl⟩
  | w :: q, r, kp, s => by
    by_cases h0 : cntN w kp ≤ 0
    · exact ⟨0, .inl (by rw [List.cons_append, settleF, if_pos h0, settleF, if_pos h0])⟩
    · have e1 : settleF (w :: q ++ r) kp s = settleF (q ++ r) (kp - cntN w kp) (stepF w (cntN w kp).toNat s) := by rw [List.cons_append, settleF, if_neg h0]
      have e2 : settleF (w :: q) kp s = settleF q (kp - cntN w kp) (stepF w (cntN w kp).toNat s) := by rw [settleF, if_neg h0]
      rw [e1, e2]
      rcases cntN_full (w := w) (kp := kp) (by omega) with e3 | e3
      · exact ⟨0, .inl (by rw [settleF_stop _ _ e3, settleF_stop _ _ e3])⟩
      · rw [e3]
        exact settle_app q r (kp - cntN w kp) (stepF w w.count s)
theorem settle_one (n : Files) (o : Nat) (kp : Int) : settleF [⟨o, true, 0, []⟩] kp n = n ∨ settleF [⟨o, true, 0, []⟩] kp n = upd n o [] := by
  unfold settleF
  split
  · exact .inl rfl
  · right
    rw [step_cut rfl rfl]; rfl
theorem settle_wr (n : Files) (o : Nat) (x : List UInt8) (kp : Int) : settleF [⟨o, true, 0, []⟩, ⟨o, false, 0, x⟩] kp n = n ∨ ∃ p, p <+: x ∧ settleF [⟨o, true, 0, []⟩, ⟨o, false, 0, x⟩] kp n = upd n o p := by
  unfold settleF
  split
  · exact .inl rfl
  · right
    rw [step_cut rfl rfl]
    unfold settleF
    split
    · exact ⟨[], List.nil_prefix, rfl⟩
    · rw [step_add rfl, settleF]
      exact ⟨_, List.take_prefix _ _, by rw [upd_upd, upd_eq, List.nil_append]⟩
section
variable {R : Int} {K : Nat} {d : DiskD} {o : Nat}
theorem tail_crash {D : DiskD} (hok : D.Ok K) (hr : D.room = R) {q r : List DeedD} (hq : D.q = q ++ r) (keep : Int) : ∃ F', Rest R K F' (crashD D keep) ∧ ((∃ kp, F' = settleF q kp D.l) ∨ ∃ kp, F' = settleF r kp (allF q D.l)) := by
  have e : (crashD D keep).n = settleF (q ++ r) keep D.l := by
    show (settleD D keep).l = _
    rw [hok.sl, hq]
  refine ⟨_, rest_of (hok.crash keep) hr rfl rfl e, ?_⟩
  obtain ⟨kp, h | h⟩ := settle_app q r keep D.l
  · exact .inl ⟨keep, h⟩
  · exact .inr ⟨kp, h⟩
/-- A file is written anew, whatever waits. -/
theorem write_any (hok : d.Ok K) (hr : d.room = R) (hd : d.dark = false) (ho : o < 4) {b : List UInt8} (hb : 0 < b.length) (hR : ((tot d.n + b.length : Nat) : Int) ≤ R + (d.n o).length) :
    (wrR d o b = 0 ∧ Rest R (K + 2) (upd d.n o b) (wrD d o b)) ∨ (wrR d o b = 10 ∧ (wrD d o b).dark = true ∧ ∀ keep, ∃ F', Rest R (K + 2) F' (crashD (wrD d o b) keep) ∧ ((∃ kp, F' = settleF d.q kp d.l) ∨ F' = d.n ∨ ∃ p, p <+: b ∧ F' = upd d.n o p)) := by
  have hnow := hok.now
  rcases cut_ok hok ho (n := 0) (Nat.zero_le _) hd with ⟨c1, c2, c3, c4⟩ | ⟨c1, c2, c3⟩
  · right
    have c1' : cutR d o 0 = 10 := c1
    have c2' : cutD d o 0 = burnD d 1 := c2
    have e1 : wrR d o b = 10 := by unfold wrR; rw [if_neg (by rw [c1']; decide), c1']
    have e2 : wrD d o b = burnD d 1 := by unfold wrD; rw [if_neg (by rw [c1']; decide), c2']
    rw [e1, e2]
    refine ⟨rfl, c3, fun keep => ?_⟩
    obtain ⟨F', g1, g2⟩ := tail_crash (R := R) (hok.burn 1 (by omega)) hr (q := d.q) (r := []) (by rw [List.append_nil]; rfl) keep
    refine ⟨F', g1.mono (by omega), ?_⟩
    rcases g2 with ⟨kp, g2⟩ | ⟨kp, g2⟩
    · exact .inl ⟨kp, g2⟩
    · exact .inr (.inl (by rw [g2, hnow]; rfl))
  · have c1' : cutR d o 0 = 0 := c1
    have c2' : cutD d o 0 = cutD1 (burnD d 1) o 0 := c2
    have c3' : (cutD d o 0).dark = false := c3
    have k1 := cutD_Ok hok ho 0
    have r1 : (cutD d o 0).room = R := by rw [c2']; exact hr
    have n1 : (cutD d o 0).n = upd d.n o [] := by rw [c2']; show upd d.n o ((d.n o).take 0) = _; rw [List.take_zero]
    have l1 : (cutD d o 0).l = d.l := by rw [c2']; rfl
    have q1 : (cutD d o 0).q = d.q ++ [⟨o, true, 0, []⟩] := by rw [c2']; rfl
    have t1 := tot_upd (s := d.n) ho []
    have hleft : ¬ leftD (cutD d o 0) < b.length := by rw [leftD_eq, r1, n1]; simp at t1; omega
    have hbn := burnN_le' k1 (n := b.length) (by omega)
    by_cases h0 : 0 < burnN (cutD d o 0) b.length
    · obtain ⟨a1, a2⟩ := app_go (i := o) c3' hleft h0 rfl
      have k2 := appD_Ok k1 ho b
      have q2 : (appD (cutD d o 0) o b).q = d.q ++ [⟨o, true, 0, []⟩, ⟨o, false, 0, b.take (burnN (cutD d o 0) b.length).toNat⟩] := by rw [a2]; show (cutD d o 0).q ++ [_] = _; rw [q1, List.append_assoc]; rfl
      have l2 : (appD (cutD d o 0) o b).l = d.l := by rw [a2]; exact l1
      have r2 : (appD (cutD d o 0) o b).room = R := by rw [a2]; exact r1
      have d2 : (appD (cutD d o 0) o b).dark = (burnD (cutD d o 0) b.length).dark := by rw [a2]; rfl
      cases hdk : (burnD (cutD d o 0) b.length).dark with
      | true =>
        right
        rw [hdk] at a1 d2
        have a1' : appR (cutD d o 0) b = 10 := a1
        have e1 : wrR d o b = 10 := by unfold wrR; rw [if_pos c1', if_neg (by rw [a1']; decide), a1']
        have e2 : wrD d o b = appD (cutD d o 0) o b := by unfold wrD; rw [if_pos c1', if_neg (by rw [a1']; decide)]
        rw [e1, e2]
        refine ⟨rfl, d2, fun keep => ?_⟩
        obtain ⟨F', g1, g2⟩ := tail_crash k2 r2 q2 keep
        rw [l2, ← hnow] at g2
        refine ⟨F', g1, g2.imp id fun ⟨kp, g⟩ => ?_⟩
        rw [g]
        exact (settle_wr _ _ _ _).imp id fun ⟨p, p1, p2⟩ => ⟨p, p1.trans (List.take_prefix _ _), p2⟩
      | false =>
        rw [hdk] at a1 d2
        have a1' : appR (cutD d o 0) b = 0 := a1
        have hfull := burn_full hdk
        rw [hfull, Int.toNat_natCast, List.take_length] at q2
        have n2 : (appD (cutD d o 0) o b).n = upd d.n o b := by
          rw [a2, hfull, Int.toNat_natCast, List.take_length]
          show upd (cutD d o 0).n o ((cutD d o 0).n o ++ b) = _
          rw [n1, upd_eq, upd_upd, List.nil_append]
        have e1 : wrR d o b = syncR (appD (cutD d o 0) o b) := by unfold wrR; rw [if_pos c1', if_pos a1']
        have e2 : wrD d o b = syncD (appD (cutD d o 0) o b) := by unfold wrD; rw [if_pos c1', if_pos a1']
        rcases (sync_ok k2).2 d2 with ⟨s1, _, s3⟩ | ⟨s1, s2, s3, s4⟩
        · left
          rw [r2, n2] at s3
          rw [e1, e2]
          exact ⟨s1, s3⟩
        · right
          rw [e1, e2, s2]
          refine ⟨s1, s3, fun keep => ?_⟩
          obtain ⟨F', g1, g2⟩ := tail_crash (k2.burn 1 (by omega)) r2 q2 keep
          rw [show (burnD (appD (cutD d o 0) o b) 1).l = d.l from l2, ← hnow] at g2
          refine ⟨F', g1, g2.imp id fun ⟨kp, g⟩ => ?_⟩
          rw [g]
          exact settle_wr _ _ _ _
    · right
      obtain ⟨a1, a2⟩ := app_no (i := o) c3' hleft h0 rfl
      have k2 := appD_Ok k1 ho b
      cases hdk : (burnD (cutD d o 0) b.length).dark with
      | true =>
        rw [hdk] at a1
        have a1' : appR (cutD d o 0) b = 10 := a1
        have e1 : wrR d o b = 10 := by unfold wrR; rw [if_pos c1', if_neg (by rw [a1']; decide), a1']
        have e2 : wrD d o b = appD (cutD d o 0) o b := by unfold wrD; rw [if_pos c1', if_neg (by rw [a1']; decide)]
        rw [e1, e2]
        refine ⟨rfl, by rw [a2]; exact hdk, fun keep => ?_⟩
        obtain ⟨F', g1, g2⟩ := tail_crash (R := R) k2 (by rw [a2]; exact r1) (q := d.q) (r := [⟨o, true, 0, []⟩]) (by rw [a2]; exact q1) keep
        have l2 : (appD (cutD d o 0) o b).l = d.l := by rw [a2]; exact l1
        rw [l2, ← hnow] at g2
        refine ⟨F', g1, g2.imp id fun ⟨kp, g⟩ => ?_⟩
        rw [g]
        exact (settle_one _ _ _).imp id fun p => ⟨[], List.nil_prefix, p⟩
      | false =>
        have := burn_full hdk
        omega
end
end Go.Proofs.Ytgjpeldgjpgbcaa
/- A vault on a disk, plain: what lasts, step by step, with any fuse. No conditions. -/
namespace Go.Proofs.Ytgjpeldgjpgbcaa
set_option linter.unusedSimpArgs false
set_option linter.unusedVariables false
set_option maxRecDepth 100000
open Go.RowKit

/-- The state of a vault and its disk: r0 are the records that were synced, r1 those that came since. -/
structure VL (K M E c : Nat) (hh : List UInt8) (r0 r1 : List (List UInt8)) (d : DiskD) : Prop where
  ok : d.Ok K
  room : d.room = 150000
  qi : QI (5 - vfile E) (vfile E) d.q
  si : SI byteN d.l 0 c E hh
  lf : d.l (vfile E) = r0.flatMap (frameN byteN)
  pre : qf d.q (vfile E) <+: r1.flatMap (frameN byteN)
  eq : d.dark = false → qf d.q (vfile E) = r1.flatMap (frameN byteN)
  sl : ∀ j, j < 4 → (d.l j).length ≤ M
  sn : ∀ j, j < 4 → (d.n j).length ≤ M
/-- What a crash leaves. -/
structure Out (M E c : Nat) (hh : List UInt8) (r0 r1 : List (List UInt8)) (F : Files) : Prop where
  si : SI byteN F 0 c E hh
  lg : ∃ p, p <+: r1.flatMap (frameN byteN) ∧ F (vfile E) = r0.flatMap (frameN byteN) ++ p
  sz : ∀ j, j < 4 → (F j).length ≤ M
theorem vm_ne (E : Nat) : 5 - vfile E ≠ vfile E := by have := vfile_23 E; omega
structure LgI (k f : Nat) (L : LogD) : Prop where
  file : L.file = (f : Int)
  down : L.down = false
  r : 0 ≤ L.records ∧ L.records ≤ k
  u : 0 ≤ L.used ∧ L.used ≤ 408 * k
  f : 0 ≤ L.fresh ∧ L.fresh ≤ k
theorem LgI.ok {k f : Nat} {L : LogD} (h : LgI k f L) (hk : k ≤ 1000) : L.Ok := by
  have h1 := h.r; have h2 := h.u; have h3 := h.f
  exact ⟨⟨h1.1, by omega⟩, ⟨h2.1, by omega⟩, ⟨h3.1, by omega⟩⟩
theorem LgI.mono {k m f : Nat} {L : LogD} (h : LgI k f L) (hk : k ≤ m) : LgI m f L := by
  have h1 := h.r; have h2 := h.u; have h3 := h.f
  exact ⟨h.file, h.down, by omega, by omega, by omega⟩
section
variable {K M E c : Nat} {hh : List UInt8} {r0 r1 : List (List UInt8)} {d : DiskD} {F : Files}
theorem VL.mono {K' M' : Nat} (h : VL K M E c hh r0 r1 d) (hK : K ≤ K') (hM : M ≤ M') : VL K' M' E c hh r0 r1 d := ⟨h.ok.mono hK, h.room, h.qi, h.si, h.lf, h.pre, h.eq, fun j hj => Nat.le_trans (h.sl j hj) hM, fun j hj => Nat.le_trans (h.sn j hj) hM⟩
theorem Out.mono {M' : Nat} (h : Out M E c hh r0 r1 F) (hM : M ≤ M') : Out M' E c hh r0 r1 F := ⟨h.si, h.lg, fun j hj => Nat.le_trans (h.sz j hj) hM⟩
theorem VL.fuse (h : VL K M E c hh r0 r1 d) (n : Int) (hn : n < 9223372036854775808) : VL K M E c hh r0 r1 (fuseD d n) := ⟨h.ok.fuseD n hn, h.room, h.qi, h.si, h.lf, h.pre, h.eq, h.sl, h.sn⟩
theorem VL.nn (h : VL K M E c hh r0 r1 d) : d.n (vfile E) = r0.flatMap (frameN byteN) ++ qf d.q (vfile E) ∧ (d.n (5 - vfile E) = d.l (5 - vfile E) ∨ d.n (5 - vfile E) = []) ∧ ∀ i, i ≠ 5 - vfile E → i ≠ vfile E → d.n i = d.l i := by
  have := all_qi (vm_ne E) d.q d.l h.qi
  rw [← h.ok.now, h.lf] at this
  exact this
theorem VL.nf (h : VL K M E c hh r0 r1 d) (hd : d.dark = false) : d.n (vfile E) = (r0 ++ r1).flatMap (frameN byteN) := by
  rw [h.nn.1, h.eq hd, List.flatMap_append]
theorem VL.ns (h : VL K M E c hh r0 r1 d) : SI byteN d.n 0 c E hh := by
  have hf := vfile_23 E
  have hn := h.nn.2.2
  exact h.si.same (hn 0 (by omega) (by omega)) (hn (0 + 1) (by omega) (by omega))
theorem VL.settled (h : VL K M E c hh r0 r1 d) (kp : Int) : Out M E c hh r0 r1 (settleF d.q kp d.l) := by
  have hf := vfile_23 E
  obtain ⟨p, p1, p2, p3, p4⟩ := settle_qi (vm_ne E) d.q d.l kp h.qi
  have hn := h.nn.1
  refine ⟨h.si.same (p4 0 (by omega) (by omega)) (p4 (0 + 1) (by omega) (by omega)), ⟨p, p1.trans h.pre, by rw [p2, h.lf]⟩, fun j hj => ?_⟩
  by_cases e : j = vfile E
  · have a := h.sn _ hj
    have b := p1.length_le
    rw [e] at a ⊢
    rw [hn, ← h.lf, List.length_append] at a
    rw [p2, List.length_append]
    omega
  · by_cases e2 : j = 5 - vfile E
    · have a := h.sl _ hj
      rw [e2] at a ⊢
      rcases p3 with p3 | p3
      · rw [p3]; exact a
      · rw [p3]; exact Nat.zero_le _
    · rw [p4 j e2 e]; exact h.sl j hj
theorem VL.now (h : VL K M E c hh r0 r1 d) : Out M E c hh r0 r1 d.n := ⟨h.ns, ⟨_, h.pre, h.nn.1⟩, h.sn⟩
theorem VL.crash (h : VL K M E c hh r0 r1 d) (keep : Int) : ∃ F', Rest 150000 K F' (crashD d keep) ∧ Out M E c hh r0 r1 F' :=
  ⟨settleF d.q keep d.l, rest_of (h.ok.crash keep) h.room rfl rfl (by show (settleD d keep).l = _; rw [h.ok.sl]), h.settled keep⟩
theorem VL.of_rest (h : Rest 150000 K F d) (hs : SI byteN F 0 c E hh) (hl : F (vfile E) = r0.flatMap (frameN byteN)) (hz : ∀ j, j < 4 → (F j).length ≤ M) : VL K M E c hh r0 [] d :=
  ⟨h.gro.ok, h.gro.room, by rw [h.q]; exact QI.nil, by rw [h.gro.l]; exact hs, by rw [h.gro.l]; exact hl, by rw [h.q]; exact List.nil_prefix, fun _ => by rw [h.q]; rfl, by rw [h.gro.l]; exact hz, by rw [h.n]; exact hz⟩
theorem VL.burn (h : VL K M E c hh r0 r1 d) (n : Int) (hn : 0 ≤ n) (hd : (burnD d n).dark = true) : VL K M E c hh r0 r1 (burnD d n) := ⟨h.ok.burn n hn, h.room, h.qi, h.si, h.lf, h.pre, fun h' => by (rw [hd] at h'; cases h'), h.sl, h.sn⟩
/-- The other file is cut. -/
theorem VL.cut (h : VL K M E c hh r0 r1 d) (hd : (cutD1 (burnD d 1) (5 - vfile E) 0).dark = d.dark) : VL (K + 1) M E c hh r0 r1 (cutD1 (burnD d 1) (5 - vfile E) 0) ∧ (cutD1 (burnD d 1) (5 - vfile E) 0).n = upd d.n (5 - vfile E) [] := by
  have hf := vfile_23 E
  have hne := vm_ne E
  have e : (cutD1 (burnD d 1) (5 - vfile E) 0).n = upd d.n (5 - vfile E) [] := by show upd d.n _ ((d.n _).take 0) = _; rw [List.take_zero]
  have hq : (cutD1 (burnD d 1) (5 - vfile E) 0).q = d.q ++ [⟨5 - vfile E, true, 0, []⟩] := rfl
  have hqf : qf (cutD1 (burnD d 1) (5 - vfile E) 0).q (vfile E) = qf d.q (vfile E) := by rw [hq, qf_app]; simp only [ite_self, List.append_nil]
  refine ⟨⟨okCut1 (h.ok.burn 1 (by omega)) (by omega) (Nat.zero_le _), h.room, by rw [hq]; exact h.qi.app QI.cut, h.si, h.lf, by rw [hqf]; exact h.pre, fun h' => by rw [hqf]; exact h.eq (hd.symm.trans h'), h.sl, fun j hj => ?_⟩, e⟩
  rw [e]
  by_cases e2 : j = 5 - vfile E
  · rw [e2, upd_eq]; exact Nat.zero_le _
  · rw [upd_ne e2]; exact h.sn j hj
theorem VL.app (h : VL K M E c hh r0 r1 d) (hd : d.dark = false) {b : List UInt8} (hR : 4 * M + 8 + b.length ≤ 150000) :
    VL (K + 1) (M + (8 + b.length)) E c hh r0 (r1 ++ [b]) (appD d (vfile E) (frameN byteN b)) ∧ ((appD d (vfile E) (frameN byteN b)).dark = false → appR d (frameN byteN b) = 0) := by
  have hx := frameN_len byteN b
  have hf := vfile_lt E
  have ht := tot_le h.sn
  have hfm : (r1 ++ [b]).flatMap (frameN byteN) = r1.flatMap (frameN byteN) ++ frameN byteN b := by rw [List.flatMap_append]; simp
  have heq := h.eq hd
  have hok := appD_Ok h.ok hf (frameN byteN b)
  generalize frameN byteN b = x at *
  have hleft : ¬ leftD d < x.length := by rw [leftD_eq, h.room]; omega
  have hbn := burnN_le' h.ok (n := x.length) (by omega)
  by_cases h0 : 0 < burnN d x.length
  · obtain ⟨a1, a2⟩ := app_go (i := vfile E) hd hleft h0 rfl
    have hq : (appD d (vfile E) x).q = d.q ++ [⟨vfile E, false, 0, x.take (burnN d x.length).toNat⟩] := by rw [a2]; rfl
    have hn : (appD d (vfile E) x).n = upd d.n (vfile E) (d.n (vfile E) ++ x.take (burnN d x.length).toNat) := by rw [a2]; rfl
    have hl : (appD d (vfile E) x).l = d.l := by rw [a2]; rfl
    have hdk : (appD d (vfile E) x).dark = (burnD d x.length).dark := by rw [a2]; rfl
    have hqf : qf (appD d (vfile E) x).q (vfile E) = r1.flatMap (frameN byteN) ++ x.take (burnN d x.length).toNat := by rw [hq, qf_app, heq]; simp
    refine ⟨⟨hok, by rw [a2]; exact h.room, by rw [hq]; exact h.qi.app QI.add, by rw [hl]; exact h.si, by rw [hl]; exact h.lf, ?_, fun h' => ?_, fun j hj => ?_, fun j hj => ?_⟩, fun h' => ?_⟩
    · rw [hqf, hfm]; exact (List.prefix_append_right_inj _).2 (List.take_prefix _ _)
    · rw [hqf, hfm, burn_full (hdk.symm.trans h'), Int.toNat_natCast, List.take_length]
    · rw [hl]; exact Nat.le_trans (h.sl j hj) (by omega)
    · rw [hn]
      by_cases e : j = vfile E
      · have := h.sn _ hj
        rw [e] at this ⊢
        rw [upd_eq, List.length_append, List.length_take]; omega
      · rw [upd_ne e]; exact Nat.le_trans (h.sn j hj) (by omega)
    · rw [hdk] at h'
      rw [h'] at a1
      exact a1
  · obtain ⟨a1, a2⟩ := app_no (i := vfile E) hd hleft h0 rfl
    cases hdk : (burnD d x.length).dark with
    | true =>
      rw [a2] at hok ⊢
      refine ⟨⟨hok, h.room, h.qi, h.si, h.lf, ?_, fun h' => by (rw [hdk] at h'; cases h'), fun j hj => Nat.le_trans (h.sl j hj) (by omega), fun j hj => Nat.le_trans (h.sn j hj) (by omega)⟩, fun h' => by (rw [hdk] at h'; cases h')⟩
      rw [hfm]; exact h.pre.trans (List.prefix_append _ _)
    | false =>
      have := burn_full hdk
      omega
variable {k : Nat} {L : LogD} {b x : List UInt8}
theorem VL.vadd (h : VL K M E c hh r0 r1 d) (hd : d.dark = false) (hL : LgI k (vfile E) L) (hb : b.length ≤ 400) (hR : 4 * M + 408 ≤ 150000) :
    VL (K + 1) (M + 408) E c hh r0 (r1 ++ [b]) (vaddD byteN ⟨((vfile E : Nat) : Int), false⟩ L d b) ∧ ((vaddD byteN ⟨((vfile E : Nat) : Int), false⟩ L d b).dark = false → vaddV byteN ⟨((vfile E : Nat) : Int), false⟩ L d b = ⟨((vfile E : Nat) : Int), false⟩ ∧ LgI (k + 1) (vfile E) (vaddL byteN ⟨((vfile E : Nat) : Int), false⟩ L d b)) := by
  have hf := vfile_lt E
  have e0 : ¬ ((⟨((vfile E : Nat) : Int), false⟩ : VltD).down || d.dark) = true := by rw [hd]; show ¬ (false || false) = true; decide
  have e1 : ¬ (L.down || d.dark) = true := by rw [hd, hL.down]; decide
  have h60 : ¬ 60000 < b.length := by omega
  obtain ⟨g1, g2⟩ := h.app hd (b := b) (by omega)
  have eA : appDi d L.file (frameN byteN b) = appD d (vfile E) (frameN byteN b) := by unfold appDi; rw [hL.file, if_pos (by omega), Int.toNat_natCast]
  have eR : appRi d L.file (frameN byteN b) = appR d (frameN byteN b) := by unfold appRi; rw [hL.file, if_pos (by omega)]
  have v4 : vaddD byteN ⟨((vfile E : Nat) : Int), false⟩ L d b = appD d (vfile E) (frameN byteN b) := by unfold vaddD; rw [if_neg e0]; unfold addD; rw [if_neg e1, if_neg h60, eA]
  rw [v4]
  refine ⟨g1.mono (Nat.le_refl _) (by omega), fun h' => ?_⟩
  have a0 : addR byteN L d b = 0 := by unfold addR; rw [if_neg e1, if_neg h60, eR, g2 h']
  have a1 : addL byteN L d b = { L with records := L.records + 1, used := L.used + (frameN byteN b).length, fresh := L.fresh + 1 } := by unfold addL; rw [if_neg e1, if_neg h60, eR, if_pos (g2 h')]
  have hl := frameN_len byteN b
  have l1 := hL.r; have l2 := hL.u; have l3 := hL.f
  refine ⟨by unfold vaddV; rw [if_neg e0, a0]; rfl, ?_⟩
  unfold vaddL
  rw [if_neg e0, a1]
  exact ⟨hL.file, hL.down, by show 0 ≤ L.records + 1 ∧ L.records + 1 ≤ _; omega, by show 0 ≤ L.used + _ ∧ L.used + _ ≤ _; omega, by show 0 ≤ L.fresh + 1 ∧ L.fresh + 1 ≤ _; omega⟩
theorem VL.vsync (h : VL K M E c hh r0 r1 d) (hd : d.dark = false) (hL : LgI k (vfile E) L) :
    (vsyncR ⟨((vfile E : Nat) : Int), false⟩ L d = 0 ∧ VL K M E c hh (r0 ++ r1) [] (vsyncD ⟨((vfile E : Nat) : Int), false⟩ L d) ∧ vsyncV ⟨((vfile E : Nat) : Int), false⟩ L d = ⟨((vfile E : Nat) : Int), false⟩ ∧ LgI k (vfile E) (vsyncL ⟨((vfile E : Nat) : Int), false⟩ L d)) ∨
    (¬ vsyncR ⟨((vfile E : Nat) : Int), false⟩ L d = 0 ∧ VL K M E c hh r0 r1 (vsyncD ⟨((vfile E : Nat) : Int), false⟩ L d) ∧ (vsyncD ⟨((vfile E : Nat) : Int), false⟩ L d).dark = true) := by
  have e0 : ¬ ((⟨((vfile E : Nat) : Int), false⟩ : VltD).down || d.dark) = true := by rw [hd]; show ¬ (false || false) = true; decide
  have e1 : ¬ (L.down || d.dark) = true := by rw [hd, hL.down]; decide
  unfold vsyncR vsyncD vsyncV vsyncL lsyncR lsyncL lsyncD
  simp only [if_neg e0, if_neg e1]
  rcases (sync_ok h.ok).2 hd with ⟨s1, _, s3⟩ | ⟨s1, s2, s3, _⟩
  · left
    rw [h.room] at s3
    rw [s1]
    have l1 := hL.r; have l2 := hL.u; have l3 := hL.f
    exact ⟨rfl, VL.of_rest s3 h.ns (h.nf hd) h.sn, rfl, hL.file, hL.down, l1, l2, by show (0 : Int) ≤ 0 ∧ (0 : Int) ≤ k; omega⟩
  · right
    rw [s1, s2]
    exact ⟨by decide, h.burn 1 (by omega) s3, s3⟩
theorem VL.fold (h : VL K M E c hh r0 r1 d) (hd : d.dark = false) (hL : LgI k (vfile E) L) (hE : E < 1000) (hx : x.length ≤ 400) (hR : 4 * M + 416 ≤ 150000) :
    ((foldO byteN ⟨((vfile E : Nat) : Int), false⟩ ⟨0, c, E, hh, false⟩ L d (vfile E) c E x).r = 0 ∧ VL (K + 4) (M + 416) (E + 1) (1 - c) x [] [] (foldO byteN ⟨((vfile E : Nat) : Int), false⟩ ⟨0, c, E, hh, false⟩ L d (vfile E) c E x).d ∧
      (foldO byteN ⟨((vfile E : Nat) : Int), false⟩ ⟨0, c, E, hh, false⟩ L d (vfile E) c E x).V = ⟨((vfile (E + 1) : Nat) : Int), false⟩ ∧ (foldO byteN ⟨((vfile E : Nat) : Int), false⟩ ⟨0, c, E, hh, false⟩ L d (vfile E) c E x).S = ⟨0, ((1 - c : Nat) : Int), ((E + 1 : Nat) : Int), x, false⟩ ∧ LgI k (vfile (E + 1)) (foldO byteN ⟨((vfile E : Nat) : Int), false⟩ ⟨0, c, E, hh, false⟩ L d (vfile E) c E x).L) ∨
    (¬ (foldO byteN ⟨((vfile E : Nat) : Int), false⟩ ⟨0, c, E, hh, false⟩ L d (vfile E) c E x).r = 0 ∧ (foldO byteN ⟨((vfile E : Nat) : Int), false⟩ ⟨0, c, E, hh, false⟩ L d (vfile E) c E x).d.dark = true ∧ (foldO byteN ⟨((vfile E : Nat) : Int), false⟩ ⟨0, c, E, hh, false⟩ L d (vfile E) c E x).d.Ok (K + 4) ∧
      ∀ keep, ∃ F', Rest 150000 (K + 4) F' (crashD (foldO byteN ⟨((vfile E : Nat) : Int), false⟩ ⟨0, c, E, hh, false⟩ L d (vfile E) c E x).d keep) ∧ (Out (M + 416) E c hh r0 r1 F' ∨ (SI byteN F' 0 (1 - c) (E + 1) x ∧ F' (vfile (E + 1)) = [] ∧ ∀ j, j < 4 → (F' j).length ≤ M + 416))) := by
  have hc2 := h.si.c2
  have hf := vfile_23 E
  have hvs := vfile_succ E
  have hfl : (frameN byteN (snapN (E + 1) x)).length = 16 + x.length := by rw [frameN_len, snapN_len]; omega
  have hed : ¬ ((⟨((vfile E : Nat) : Int), false⟩ : VltD).down || d.dark) = true := by show ¬ (false || d.dark) = true; rw [hd]; decide
  unfold foldO
  rw [if_neg hed]
  rcases cut_ok h.ok (show 5 - vfile E < 4 by omega) (n := 0) (Nat.zero_le _) hd with ⟨c1, c2, c3, c4⟩ | ⟨c1, c2, c3⟩
  · right
    have c1' : cutR d (5 - vfile E) 0 = 10 := c1
    have c2' : cutD d (5 - vfile E) 0 = burnD d 1 := c2
    rw [if_neg (by rw [c1']; decide), c2']
    refine ⟨show ¬ (10 : Int) = 0 by decide, c3, (h.ok.burn 1 (by omega)).mono (by omega), fun keep => ?_⟩
    obtain ⟨F', g1, g2⟩ := (h.burn 1 (by omega) c3).crash keep
    exact ⟨F', g1.mono (by omega), .inl (g2.mono (by omega))⟩
  · have c1' : cutR d (5 - vfile E) 0 = 0 := c1
    have c2' : cutD d (5 - vfile E) 0 = cutD1 (burnD d 1) (5 - vfile E) 0 := c2
    have c3' : (cutD d (5 - vfile E) 0).dark = false := c3
    obtain ⟨p1, p2⟩ := h.cut (by rw [← c2', c3', hd])
    rw [← c2'] at p1 p2
    have hg := put_go (t := byteN) (S := ⟨0, c, E, hh, false⟩) (d := cutD d (5 - vfile E) 0) (f := 0) (c := c) (e := E) (b := x) (by show ¬ (false || _) = true; rw [c3']; decide) (by omega) (by omega)
    rw [if_pos c1', hg.1, hg.2.1, hg.2.2]
    have ht := tot_le p1.sn
    have hs1 := p1.ns
    have hok2 := wrD_Ok p1.ok (f := 0 + (1 - c)) (by omega) (frameN byteN (snapN (E + 1) x))
    have hm : (cutD d (5 - vfile E) 0).n (5 - vfile E) = [] := by rw [p2, upd_eq]
    generalize cutD d (5 - vfile E) 0 = d1 at *
    rcases write_any p1.ok p1.room c3' (o := 0 + (1 - c)) (by omega) (b := frameN byteN (snapN (E + 1) x)) (by omega) (by omega) with ⟨w1, w2⟩ | ⟨w1, w2, w4⟩
    · left
      rw [if_pos w1, if_pos w1]
      have hs2 : SI byteN (upd d1.n (0 + (1 - c)) (frameN byteN (snapN (E + 1) x))) 0 (1 - c) (E + 1) x := hs1.full (by omega) (by omega)
      have hnx : upd d1.n (0 + (1 - c)) (frameN byteN (snapN (E + 1) x)) (vfile (E + 1)) = ([] : List (List UInt8)).flatMap (frameN byteN) := by rw [hvs, upd_ne (by omega), hm]; rfl
      have hz : ∀ j, j < 4 → (upd d1.n (0 + (1 - c)) (frameN byteN (snapN (E + 1) x)) j).length ≤ M + 416 := fun j hj => by
        have := p1.sn j hj
        by_cases e : j = 0 + (1 - c)
        · rw [e, upd_eq, hfl]; omega
        · rw [upd_ne e]; omega
      have he : emptyD L (wrD d1 (0 + (1 - c)) (frameN byteN (snapN (E + 1) x))) = cutD (wrD d1 (0 + (1 - c)) (frameN byteN (snapN (E + 1) x))) (5 - vfile (E + 1)) 0 := by
        unfold emptyD
        rw [if_neg (by rw [hL.down, w2.dark]; decide), hL.file]
        unfold cutDi
        rw [if_pos (by omega), Int.toNat_natCast, show 5 - vfile (E + 1) = vfile E by omega]
      have hV := VL.of_rest (r0 := []) w2 hs2 hnx hz
      refine ⟨rfl, ?_, by show VltD.mk _ _ = _; rw [hvs], rfl, by rw [hvs]; exact ⟨rfl, rfl, by show (0 : Int) ≤ 0 ∧ (0 : Int) ≤ k; omega, by show (0 : Int) ≤ 0 ∧ (0 : Int) ≤ 408 * k; omega, by show (0 : Int) ≤ 0 ∧ (0 : Int) ≤ k; omega⟩⟩
      show VL (K + 4) (M + 416) (E + 1) (1 - c) x [] [] (emptyD L _)
      rw [he]
      rcases cut_ok w2.gro.ok (show 5 - vfile (E + 1) < 4 by omega) (n := 0) (Nat.zero_le _) w2.dark with ⟨e1, e2, e3, e4⟩ | ⟨e1, e2, e3⟩
      · have e2' : cutD (wrD d1 (0 + (1 - c)) (frameN byteN (snapN (E + 1) x))) (5 - vfile (E + 1)) 0 = burnD _ 1 := e2
        rw [e2']
        exact (hV.burn 1 (by omega) e3).mono (by omega) (Nat.le_refl _)
      · have e2' : cutD (wrD d1 (0 + (1 - c)) (frameN byteN (snapN (E + 1) x))) (5 - vfile (E + 1)) 0 = cutD1 (burnD _ 1) (5 - vfile (E + 1)) 0 := e2
        have e3' : (cutD (wrD d1 (0 + (1 - c)) (frameN byteN (snapN (E + 1) x))) (5 - vfile (E + 1)) 0).dark = false := e3
        have hx2 := (hV.cut (by rw [← e2', e3', w2.dark])).1
        rw [e2']
        exact hx2
    · right
      have w1' : ¬ wrR d1 (0 + (1 - c)) (frameN byteN (snapN (E + 1) x)) = 0 := by rw [w1]; decide
      rw [if_neg w1']
      refine ⟨w1', w2, hok2.mono (by omega), fun keep => ?_⟩
      obtain ⟨F', g1, g2⟩ := w4 keep
      refine ⟨F', g1.mono (by omega), ?_⟩
      rcases g2 with ⟨kp, rfl⟩ | rfl | ⟨p, q1, rfl⟩
      · exact .inl ((p1.settled kp).mono (by omega))
      · exact .inl (p1.now.mono (by omega))
      · have hz : ∀ j, j < 4 → (upd d1.n (0 + (1 - c)) p j).length ≤ M + 416 := fun j hj => by
          have := p1.sn j hj
          have := q1.length_le
          by_cases e : j = 0 + (1 - c)
          · rw [e, upd_eq]; omega
          · rw [upd_ne e]; omega
        rcases Nat.lt_or_ge p.length (frameN byteN (snapN (E + 1) x)).length with hl | hl
        · left
          have hz0 : (slotN byteN p).1 = 0 := by rw [slot_torn (by rw [snapN_len]; omega) q1 hl]
          obtain ⟨y, y1, y2⟩ := p1.now.lg
          exact ⟨hs1.torn hz0, ⟨y, y1, by rw [upd_ne (by omega)]; exact y2⟩, hz⟩
        · right
          rw [List.IsPrefix.eq_of_length_le q1 hl] at hz ⊢
          exact ⟨hs1.full (by omega) (by omega), by rw [hvs, upd_ne (by omega)]; exact hm, hz⟩
end
end Go.Proofs.Ytgjpeldgjpgbcaa
/- A vault on a disk, plain: the invariant of VaultLasts' loop, and what the last crashes leave. No conditions. -/
namespace Go.Proofs.Ytgjpeldgjpgbcaa
set_option linter.unusedSimpArgs false
set_option linter.unusedVariables false
set_option maxRecDepth 100000
open Go.RowKit

/-- Where VaultLasts' loop stands. -/
structure VQ where
  k : Nat
  E : Nat
  c : Nat
  hh : List UInt8
  rs : List (List UInt8)
  su : Nat
  ne : Nat
  nb : List UInt8
  fo : Bool
  gl : Nat
  h4 : Nat
  gL : Nat
  V : VltD
  S : SltD
  L : LogD
  d : DiskD
def Torn (k E c : Nat) (hh : List UInt8) (rs : List (List UInt8)) (su ne : Nat) (nb : List UInt8) (d : DiskD) : Prop :=
  ∀ keep, ∃ F', Rest 150000 (4 * k + 4) F' (crashD d keep) ∧ (Out (416 * k) E c hh (rs.take su) (rs.drop su) F' ∨ (SI byteN F' 0 (1 - c) ne nb ∧ F' (vfile ne) = [] ∧ ∀ j, j < 4 → (F' j).length ≤ 416 * k))
structure VQJ (n k E c : Nat) (hh : List UInt8) (rs : List (List UInt8)) (su ne : Nat) (nb : List UInt8) (fo : Bool) (V : VltD) (S : SltD) (L : LogD) (d : DiskD) : Prop where
  hk : k ≤ n
  hE : E ≤ k
  he : ne ≤ k
  hn : rs.length ≤ k
  hr : ∀ r ∈ rs, r.length ≤ 400
  hs : su ≤ rs.length
  hh4 : hh.length ≤ 400
  hb : nb.length ≤ 400
  ok : d.Ok (4 * k + 4)
  st : (VL (4 * k + 4) (416 * k) E c hh (rs.take su) (rs.drop su) d ∧ (d.dark = false → V = ⟨((vfile E : Nat) : Int), false⟩ ∧ S = ⟨0, c, E, hh, false⟩ ∧ LgI k (vfile E) L)) ∨ (d.dark = true ∧ fo = true ∧ ne = E + 1 ∧ Torn k E c hh rs su ne nb d)
section
variable {n k E c su ne : Nat} {hh nb b : List UInt8} {rs : List (List UInt8)} {fo : Bool} {V : VltD} {S : SltD} {L : LogD} {d : DiskD}
theorem Torn.next (h : Torn k E c hh rs su ne nb d) : Torn (k + 1) E c hh rs su ne nb d := fun keep => by
  obtain ⟨F', a, b⟩ := h keep
  refine ⟨F', a.mono (by omega), b.imp (fun x => x.mono (by omega)) fun ⟨x, y, z⟩ => ⟨x, y, fun j hj => Nat.le_trans (z j hj) (by omega)⟩⟩
theorem VQJ.skip (h : VQJ n k E c hh rs su ne nb fo V S L d) (hk : k < n) : VQJ n (k + 1) E c hh rs su ne nb fo V S L d := by
  have hE := h.hE; have he := h.he; have hn := h.hn
  refine ⟨hk, by omega, by omega, by omega, h.hr, h.hs, h.hh4, h.hb, h.ok.mono (by omega), ?_⟩
  rcases h.st with ⟨a, b⟩ | ⟨a, b, e, f⟩
  · exact .inl ⟨a.mono (by omega) (by omega), fun hd => ⟨(b hd).1, (b hd).2.1, (b hd).2.2.mono (by omega)⟩⟩
  · exact .inr ⟨a, b, e, f.next⟩
theorem VQJ.live (h : VQJ n k E c hh rs su ne nb fo V S L d) (hd : d.dark = false) : VL (4 * k + 4) (416 * k) E c hh (rs.take su) (rs.drop su) d ∧ V = ⟨((vfile E : Nat) : Int), false⟩ ∧ S = ⟨0, c, E, hh, false⟩ ∧ LgI k (vfile E) L := by
  rcases h.st with ⟨a, b⟩ | ⟨a, _⟩
  · exact ⟨a, b hd⟩
  · rw [hd] at a; cases a
theorem VQJ.add (h : VQJ n k E c hh rs su ne nb fo ⟨((vfile E : Nat) : Int), false⟩ ⟨0, c, E, hh, false⟩ L d) (hd : d.dark = false) (hk : k < n) (hn60 : n ≤ 60) (hb4 : b.length ≤ 400) :
    VQJ n (k + 1) E c hh (rs ++ [b]) su ne nb fo (vaddV byteN ⟨((vfile E : Nat) : Int), false⟩ L d b) ⟨0, c, E, hh, false⟩ (vaddL byteN ⟨((vfile E : Nat) : Int), false⟩ L d b) (vaddD byteN ⟨((vfile E : Nat) : Int), false⟩ L d b) := by
  have hE := h.hE; have he := h.he; have hn := h.hn; have hs := h.hs
  obtain ⟨a, _, _, e⟩ := h.live hd
  obtain ⟨g1, g2⟩ := a.vadd hd e hb4 (by omega)
  have g3 := g1.mono (K' := 4 * (k + 1) + 4) (M' := 416 * (k + 1)) (by omega) (by omega)
  refine ⟨hk, by omega, by omega, by rw [List.length_append]; simp; omega, fun r hr => ?_, by rw [List.length_append]; omega, h.hh4, h.hb, g3.ok, .inl ⟨?_, fun hd' => ⟨(g2 hd').1, rfl, (g2 hd').2⟩⟩⟩
  · rcases List.mem_append.1 hr with hr | hr
    · exact h.hr r hr
    · rw [List.mem_singleton.1 hr]; exact hb4
  · rw [List.take_append_of_le_length hs, List.drop_append_of_le_length hs]
    exact g3
theorem VQJ.sync (h : VQJ n k E c hh rs su ne nb fo ⟨((vfile E : Nat) : Int), false⟩ ⟨0, c, E, hh, false⟩ L d) (hd : d.dark = false) (hk : k < n) :
    (vsyncR ⟨((vfile E : Nat) : Int), false⟩ L d = 0 → VQJ n (k + 1) E c hh rs rs.length ne nb fo (vsyncV ⟨((vfile E : Nat) : Int), false⟩ L d) ⟨0, c, E, hh, false⟩ (vsyncL ⟨((vfile E : Nat) : Int), false⟩ L d) (vsyncD ⟨((vfile E : Nat) : Int), false⟩ L d)) ∧
    (¬ vsyncR ⟨((vfile E : Nat) : Int), false⟩ L d = 0 → VQJ n (k + 1) E c hh rs su ne nb fo (vsyncV ⟨((vfile E : Nat) : Int), false⟩ L d) ⟨0, c, E, hh, false⟩ (vsyncL ⟨((vfile E : Nat) : Int), false⟩ L d) (vsyncD ⟨((vfile E : Nat) : Int), false⟩ L d)) := by
  have hE := h.hE; have he := h.he; have hn := h.hn; have hs := h.hs
  obtain ⟨a, _, _, e⟩ := h.live hd
  rcases a.vsync hd e with ⟨g1, g2, g3, g4⟩ | ⟨g1, g2, g3⟩
  · have g5 := g2.mono (K' := 4 * (k + 1) + 4) (M' := 416 * (k + 1)) (by omega) (by omega)
    refine ⟨fun _ => ⟨hk, by omega, by omega, by omega, h.hr, Nat.le_refl _, h.hh4, h.hb, g5.ok, .inl ⟨?_, fun _ => ⟨g3, rfl, g4.mono (by omega)⟩⟩⟩, fun x => absurd g1 x⟩
    rw [List.take_length, List.drop_length]
    rw [List.take_append_drop] at g5
    exact g5
  · have g5 := g2.mono (K' := 4 * (k + 1) + 4) (M' := 416 * (k + 1)) (by omega) (by omega)
    exact ⟨fun x => absurd x g1, fun _ => ⟨hk, by omega, by omega, by omega, h.hr, hs, h.hh4, h.hb, g5.ok, .inl ⟨g5, fun x => by rw [g3] at x; cases x⟩⟩⟩
theorem VQJ.fold (h : VQJ n k E c hh rs su ne nb fo ⟨((vfile E : Nat) : Int), false⟩ ⟨0, c, E, hh, false⟩ L d) (hd : d.dark = false) (hk : k < n) (hn60 : n ≤ 60) (hb4 : b.length ≤ 400) {o : FoldO} (ho : o = foldO byteN ⟨((vfile E : Nat) : Int), false⟩ ⟨0, c, E, hh, false⟩ L d (vfile E) c E b) :
    (o.r = 0 → VQJ n (k + 1) (E + 1) (1 - c) b [] 0 (E + 1) b (o.r != 0) o.V o.S o.L o.d) ∧ (¬ o.r = 0 → VQJ n (k + 1) E c hh rs su (E + 1) b (o.r != 0) o.V o.S o.L o.d) := by
  subst ho
  have hE := h.hE; have he := h.he; have hn := h.hn; have hs := h.hs
  obtain ⟨a, _, _, e⟩ := h.live hd
  rcases a.fold hd e (by omega) hb4 (by omega) with ⟨g1, g2, g3, g4, g5⟩ | ⟨g1, g2, g3, g4⟩
  · have g6 := g2.mono (K' := 4 * (k + 1) + 4) (M' := 416 * (k + 1)) (by omega) (by omega)
    exact ⟨fun _ => ⟨hk, by omega, by omega, Nat.zero_le _, (by intro r hr; cases hr), Nat.le_refl _, hb4, hb4, g6.ok, .inl ⟨g6, fun _ => ⟨g3, g4, g5.mono (by omega)⟩⟩⟩, fun x => absurd g1 x⟩
  · refine ⟨fun x => absurd x g1, fun _ => ⟨hk, by omega, by omega, by omega, h.hr, hs, h.hh4, hb4, g3.mono (by omega), .inr ⟨g2, by simpa using g1, rfl, fun keep => ?_⟩⟩⟩
    obtain ⟨F', x, y⟩ := g4 keep
    refine ⟨F', x.mono (by omega), y.imp (fun z => z.mono (by omega)) fun ⟨z1, z2, z3⟩ => ⟨z1, z2, fun j hj => Nat.le_trans (z3 j hj) (by omega)⟩⟩
theorem vqj_new (n : Nat) (fuse : Int) (hf : fuse < 9223372036854775808) : VQJ n 0 0 1 [] [] 0 0 [] false ⟨2, false⟩ ⟨0, 1, 0, [], false⟩ ⟨2, false, 0, 0, 0⟩ (fuseD (crD 150000) fuse) := by
  obtain ⟨_, a, b⟩ := cr_sync (R := 150000) ⟨by omega, by omega⟩
  have h1 : VL 4 0 0 1 [] [] [] (fuseD (crD 150000) fuse) := (VL.of_rest (E := 0) (r0 := []) a (si_new byteN 0 rfl rfl) rfl (fun _ _ => Nat.le_refl _)).fuse fuse hf
  exact ⟨Nat.zero_le _, Nat.le_refl _, Nat.le_refl _, Nat.le_refl _, (by intro r hr; cases hr), Nat.le_refl _, Nat.zero_le _, Nat.zero_le _, h1.ok, .inl ⟨h1, fun _ => ⟨rfl, rfl, rfl, rfl, ⟨Int.le_refl _, Int.le_refl _⟩, ⟨Int.le_refl _, Int.le_refl _⟩, ⟨Int.le_refl _, Int.le_refl _⟩⟩⟩⟩
/-- What the end finds. -/
def Fin (E : Nat) (hh : List UInt8) (rs : List (List UInt8)) (su ne : Nat) (nb : List UInt8) (fo : Bool) (E2 : Nat) (h2 : List UInt8) (rs2 : List (List UInt8)) : Prop :=
  (E2 = E ∧ h2 = hh ∧ ∃ m, su ≤ m ∧ m ≤ rs.length ∧ rs2 = rs.take m) ∨ (fo = true ∧ E2 = ne ∧ h2 = nb ∧ rs2 = [])
theorem out_scan {M : Nat} {F : Files} (h : Out M E c hh (rs.take su) (rs.drop su) F) (hs : su ≤ rs.length) (hr : ∀ r ∈ rs, r.length ≤ 400) : ∃ m, su ≤ m ∧ m ≤ rs.length ∧ (scanN byteN (F (vfile E))).1 = rs.take m := by
  obtain ⟨p, p1, p2⟩ := h.lg
  have hr' : ∀ r ∈ rs.drop su, r.length ≤ 60000 := fun r hx => Nat.le_trans (hr r (List.mem_of_mem_drop hx)) (by omega)
  obtain ⟨m, j, m1, m2, m3⟩ := prefix_frames (t := byteN) (rs.drop su) hr' p p1
  rw [List.length_drop] at m1
  refine ⟨su + m, by omega, by omega, ?_⟩
  have e : rs.take su ++ (rs.drop su).take m = rs.take (su + m) := by rw [List.take_add]
  rw [p2, m2, ← List.append_assoc, ← List.flatMap_append, e]
  have := scanN_frames (t := byteN) m3 (rs.take (su + m)) fun r hx => Nat.le_trans (hr r (List.mem_of_mem_take hx)) (by omega)
  rw [this]
theorem VQJ.fin (h : VQJ n k E c hh rs su ne nb fo V S L d) (keep : Int) : ∃ F E2 c2 h2 rs2, Rest 150000 (4 * k + 4) F (crashD d keep) ∧ SI byteN F 0 c2 E2 h2 ∧ (scanN byteN (F (vfile E2))).1 = rs2 ∧ E2 ≤ k ∧ h2.length ≤ 400 ∧ rs2.length ≤ k ∧ (∀ r ∈ rs2, r.length ≤ 400) ∧ Fin E hh rs su ne nb fo E2 h2 rs2 := by
  have key : ∀ F', Out (416 * k) E c hh (rs.take su) (rs.drop su) F' → Rest 150000 (4 * k + 4) F' (crashD d keep) → ∃ F E2 c2 h2 rs2, Rest 150000 (4 * k + 4) F (crashD d keep) ∧ SI byteN F 0 c2 E2 h2 ∧ (scanN byteN (F (vfile E2))).1 = rs2 ∧ E2 ≤ k ∧ h2.length ≤ 400 ∧ rs2.length ≤ k ∧ (∀ r ∈ rs2, r.length ≤ 400) ∧ Fin E hh rs su ne nb fo E2 h2 rs2 := fun F' x y => by
    obtain ⟨m, m1, m2, m3⟩ := out_scan x h.hs h.hr
    have hn := h.hn
    exact ⟨F', E, c, hh, rs.take m, y, x.si, m3, h.hE, h.hh4, by rw [List.length_take]; omega, fun r hx => h.hr r (List.mem_of_mem_take hx), .inl ⟨rfl, rfl, m, m1, m2, rfl⟩⟩
  rcases h.st with ⟨a, _⟩ | ⟨_, b, e, f⟩
  · obtain ⟨F', x, y⟩ := a.crash keep
    exact key F' y x
  · obtain ⟨F', x, y | ⟨y1, y2, y3⟩⟩ := f keep
    · exact key F' y x
    · exact ⟨F', ne, 1 - c, nb, [], x, y1, by rw [y2, scan_nil], h.he, h.hb, Nat.zero_le _, (by intro r hx; cases hx), .inr ⟨b, rfl, rfl, rfl⟩⟩
end
section
variable {R : Int} {K : Nat} {F : Files} {d : DiskD} {E c : Nat} {hh : List UInt8} {rs : List (List UInt8)}
theorem scan_again (l : List UInt8) : (scanN byteN (l.take (scanN byteN l).2)).1 = (scanN byteN l).1 := by
  obtain ⟨j, _, _, _, h4⟩ := scanN_split byteN l
  rw [scanN_take]
  have := scanN_frames (t := byteN) fget_nil (scanN byteN l).1 h4
  rw [List.append_nil] at this
  rw [this]
/-- Opened with a fuse, and a crash behind. -/
theorem reopen_crash (h : Rest R K F d) (hs : SI byteN F 0 c E hh) (hsc : (scanN byteN (F (vfile E))).1 = rs) (keep : Int) : ∃ F2, Rest R (K + 1) F2 (crashD (openD byteN d (vfile E)) keep) ∧ (crashD (openD byteN d (vfile E)) keep).fused = false ∧ SI byteN F2 0 c E hh ∧ (scanN byteN (F2 (vfile E))).1 = rs := by
  have hf := vfile_23 E
  obtain ⟨F2, a, b, e⟩ := h.open_crash (t := byteN) (vfile_lt E) keep
  refine ⟨F2, a, b, ?_⟩
  rcases e with rfl | rfl
  · exact ⟨hs, hsc⟩
  · exact ⟨hs.other ⟨by omega, by omega⟩, by rw [upd_eq, scan_again, hsc]⟩
/-- Opened calmly. -/
theorem reopen_calm (h : Rest R K F d) (hfu : d.fused = false) (hs : SI byteN F 0 c E hh) (hsc : (scanN byteN (F (vfile E))).1 = rs) : openR byteN d (vfile E) = 0 ∧ ∃ F2, Rest R (K + 1) F2 (openD byteN d (vfile E)) ∧ (openD byteN d (vfile E)).fused = false ∧ SI byteN F2 0 c E hh ∧ (scanN byteN (F2 (vfile E))).1 = rs := by
  have hf := vfile_23 E
  obtain ⟨a, b, e⟩ := h.open_calm (t := byteN) (vfile_lt E) hfu
  exact ⟨a, _, b, e, hs.other ⟨by omega, by omega⟩, by rw [upd_eq, scan_again, hsc]⟩
end
end Go.Proofs.Ytgjpeldgjpgbcaa
/- The twelfth law of what lasts: calls as data, long, a vault that is opened while a fuse burns. No conditions. -/
namespace Go.Proofs.Ytgjpeldgjpgbcaa
set_option linter.unusedSimpArgs false
set_option linter.unusedVariables false
set_option maxRecDepth 100000
open Go.RowKit

structure Act12 where
  kind : Int
  b : List UInt8
def Act12.cs (x : Act12) : List AV := [.sc (.int .i64 x.kind), .sl (byA x.b)]
theorem long12_c (l : List Act12) : AC Try.prog 65 [.sl (l.map Act12.cs)] (fun r => ∃ b, r = .s (.sc (.bool b)) ∧ (b = false → l.length ≤ 60)) := by
  refine AC.of' 37 0 Try.func65 rfl ?_
  change AW _ _ _ _ []
  refine AW.seq ?_
  refine AW.region ?_
  refine AL.ra ?_
  refine AL.nil ?_
  change AW _ _ _ _ _
  refine AW.seq ?_
  refine AW.seq ?_
  refine AW.region ?_
  refine AL.rm ?_
  refine AL.r (rd_len_sl rfl el_91 rfl) ?_
  refine AL.r (rd_bin rfl rfl rfl (fun _ => rfl)) ?_
  refine AL.nil ?_
  change AW _ _ _ _ _
  refine AW.cd rfl (fun h6 => ?_) (fun h6 => ?_)
  ·skip
   refine AW.seq ?_
   refine AW.region ?_
   refine AL.ra ?_
   refine AL.nil ?_
   change AW _ _ _ _ _
   refine AW.ret ?_
   change ResA _ _ _ _ _
   refine res1 rfl (ResV.tmp rfl) rfl ?_
   exact ⟨_, rfl, fun h => by cases h⟩
  ·skip
   refine AW.skip ?_
   change AW _ _ _ _ _
   refine AW.seq ?_
   refine AW.seq ?_
   refine AW.region ?_
   refine AL.ra ?_
   refine AL.nil ?_
   change AW _ _ _ _ _
   refine AW.block ?_
   refine AW.loopM (ι := Nat) [2, 7, 8, 9, 10, 11, 12, 13, 14, 15, 16, 17, 18, 19, 20, 21, 22, 23, 24, 25, 26, 27, 28, 29, 30, 31, 32, 33, 34, 35, 36, 37] (fun k => [(3, .sc (.int .i64 (k : Int)))]) [] (fun k => []) (fun k => k ≤ l.length) (fun k => l.length - k) 0 (Nat.zero_le _) (by simp only [anys, upds, offs, List.set_cons_zero, List.set_cons_succ]; repeat (first | exact Wk.nil | refine Wk.same ?_ | refine Wk.any ?_)) (by simp only [anys, upds, offs, List.set_cons_zero, List.set_cons_succ]; repeat (first | exact Sk.nil _ | refine Sk.same _ ?_ | refine Sk.scr _ (by decide) ?_)) ?_
   rintro k gs hJ
   refine AW.norm (by simp only [anys, upds, offs, List.set_cons_zero, List.set_cons_succ]; rfl) (by (try simp only [anys, upds, offs, List.set_cons_zero, List.set_cons_succ]); (try rfl)) ?_
   refine AW.seq ?_
   refine AW.seq ?_
   refine AW.region ?_
   refine AL.rm ?_
   refine AL.rm ?_
   refine AL.r (rd_len_sl rfl el_91 rfl) ?_
   refine AL.r (rd_bin rfl rfl rfl (fun _ => rfl)) ?_
   refine AL.nil ?_
   change AW _ _ _ _ _
   refine AW.cd rfl (fun h10 => ?_) (fun h10 => ?_)
   ·skip
    refine AW.skip ?_
    change AW _ _ _ _ _
    refine AW.seq ?_
    refine AW.block ?_
    refine AW.seq ?_
    refine AW.region ?_
    refine AL.rm ?_
    refine AL.rm ?_
    refine AL.r (rd_iaddr_sl rfl el_91 rfl rfl rfl (get_mapA (by omega)) rfl) ?_
    refine AL.r (rd_faddr_ep rfl fo_93_1 rfl) ?_
    refine AL.r (rd_load_ep rfl ag_29 rfl rfl) ?_
    refine AL.r (rd_len_sl rfl el_29 rfl) ?_
    refine AL.r (rd_bin rfl rfl rfl (fun _ => rfl)) ?_
    refine AL.rm ?_
    refine AL.fk (d := 20) rfl (fun h20 => ?_) (fun h20 => ?_)
    ·skip
     refine AL.n ?_
     refine AL.ro (rd_move rfl rfl) ?_
     refine AL.ro (rd_move rfl rfl) ?_
     refine AL.ro (rd_iaddr_sl rfl el_91 rfl rfl rfl (get_mapA (by omega)) rfl) ?_
     refine AL.ro (rd_faddr_ep rfl fo_93_1 rfl) ?_
     refine AL.ro (rd_load_ep rfl ag_29 rfl rfl) ?_
     refine AL.ro (rd_len_sl rfl el_29 rfl) ?_
     refine AL.ro (rd_bin rfl rfl rfl (fun _ => rfl)) ?_
     refine AL.r (rd_pick_t rfl rfl rfl) ?_
     refine AL.rm ?_
     refine AL.fk (d := 29) rfl (fun h29 => ?_) (fun h29 => ?_)
     ·skip
      refine AL.n ?_
      refine AL.rf ?_
      refine AL.rf ?_
      refine AL.rf ?_
      refine AL.rf ?_
      refine AL.rf ?_
      refine AL.rf ?_
      refine AL.rf ?_
      refine AL.r (rd_pick_t rfl rfl rfl) ?_
      refine AL.nil ?_
      change AW _ _ _ _ _
      refine AW.cond_t rfl ?_
      refine AW.seq ?_
      refine AW.region ?_
      refine AL.ra ?_
      refine AL.nil ?_
      change AW _ _ _ _ _
      refine AW.ret ?_
      change ResA _ _ _ _ _
      refine res1 rfl (ResV.tmp rfl) rfl ?_
      exact ⟨_, rfl, fun h => by cases h⟩
     ·skip
      refine AL.n ?_
      refine AL.ro (rd_move rfl rfl) ?_
      refine AL.ro (rd_move rfl rfl) ?_
      refine AL.ro (rd_iaddr_sl rfl el_91 rfl rfl rfl (get_mapA (by omega)) rfl) ?_
      refine AL.ro (rd_faddr_ep rfl fo_93_1 rfl) ?_
      refine AL.ro (rd_load_ep rfl ag_29 rfl rfl) ?_
      refine AL.ro (rd_len_sl rfl el_29 rfl) ?_
      refine AL.ro (rd_bin rfl rfl rfl (fun _ => rfl)) ?_
      refine AL.r (rd_pick_f rfl rfl rfl) ?_
      refine AL.nil ?_
      change AW _ _ _ _ _
      refine AW.cd rfl (fun h37 => ?_) (fun h37 => ?_)
      ·skip
       refine AW.seq ?_
       refine AW.region ?_
       refine AL.ra ?_
       refine AL.nil ?_
       change AW _ _ _ _ _
       refine AW.ret ?_
       change ResA _ _ _ _ _
       refine res1 rfl (ResV.tmp rfl) rfl ?_
       exact ⟨_, rfl, fun h => by cases h⟩
      ·skip
       refine AW.skip ?_
       change AW _ _ _ _ _
       refine AW.region ?_
       refine AL.rm ?_
       refine AL.r (rd_arith_add rfl rfl rfl (by first | exact IntWalk.i64_in _ (by omega) | rfl)) ?_
       refine AL.ra ?_
       refine AL.nil ?_
       refine ⟨k + 1, ?_, by first | omega | (simp only []; omega), ?_, ?_⟩
       ·show k + 1 ≤ l.length; omega
       ·simp only [anys, upds, offs, List.set_cons_zero, List.set_cons_succ]; repeat (first | exact Wk.nil | refine Wk.same ?_ | refine Wk.any ?_)
       ·simp only [anys, upds, offs, List.set_cons_zero, List.set_cons_succ]; repeat (first | exact Sk.nil _ | refine Sk.same _ ?_ | refine Sk.scr _ (by decide) ?_)
    ·skip
     refine AL.n ?_
     refine AL.rf ?_
     refine AL.rf ?_
     refine AL.rf ?_
     refine AL.rf ?_
     refine AL.rf ?_
     refine AL.rf ?_
     refine AL.rf ?_
     refine AL.r (rd_pick_f rfl rfl rfl) ?_
     refine AL.rm ?_
     refine AL.ro (rd_move rfl rfl) ?_
     refine AL.ro (rd_move rfl rfl) ?_
     refine AL.ro (rd_iaddr_sl rfl el_91 rfl rfl rfl (get_mapA (by omega)) rfl) ?_
     refine AL.ro (rd_faddr_ep rfl fo_93_1 rfl) ?_
     refine AL.ro (rd_load_ep rfl ag_29 rfl rfl) ?_
     refine AL.ro (rd_len_sl rfl el_29 rfl) ?_
     refine AL.ro (rd_bin rfl rfl rfl (fun _ => rfl)) ?_
     refine AL.r (rd_pick_f rfl rfl rfl) ?_
     refine AL.nil ?_
     change AW _ _ _ _ _
     refine AW.cd rfl (fun h37 => ?_) (fun h37 => ?_)
     ·skip
      refine AW.seq ?_
      refine AW.region ?_
      refine AL.ra ?_
      refine AL.nil ?_
      change AW _ _ _ _ _
      refine AW.ret ?_
      change ResA _ _ _ _ _
      refine res1 rfl (ResV.tmp rfl) rfl ?_
      exact ⟨_, rfl, fun h => by cases h⟩
     ·skip
      refine AW.skip ?_
      change AW _ _ _ _ _
      refine AW.region ?_
      refine AL.rm ?_
      refine AL.r (rd_arith_add rfl rfl rfl (by first | exact IntWalk.i64_in _ (by omega) | rfl)) ?_
      refine AL.ra ?_
      refine AL.nil ?_
      refine ⟨k + 1, ?_, by first | omega | (simp only []; omega), ?_, ?_⟩
      ·show k + 1 ≤ l.length; omega
      ·simp only [anys, upds, offs, List.set_cons_zero, List.set_cons_succ]; repeat (first | exact Wk.nil | refine Wk.same ?_ | refine Wk.any ?_)
      ·simp only [anys, upds, offs, List.set_cons_zero, List.set_cons_succ]; repeat (first | exact Sk.nil _ | refine Sk.same _ ?_ | refine Sk.scr _ (by decide) ?_)
   ·skip
    refine AW.exit ?_
    change AW _ _ _ _ _
    refine AW.seq ?_
    refine AW.region ?_
    refine AL.ra ?_
    refine AL.nil ?_
    change AW _ _ _ _ _
    refine AW.ret ?_
    change ResA _ _ _ _ _
    refine res1 rfl (ResV.tmp rfl) rfl ?_
    exact ⟨_, rfl, fun _ => by omega⟩
/-- A contract whose answer nobody looks at. -/
theorem ACo.forget {P : Program} {f : FuncId} {args : List AV} {os : List TK} {R R' : AV → List TK → Prop} (h : ACo P f args os R) (hR : ∀ y os', R y os' → ∃ scr, cleanS (offs (fun j => (os'.getD j ⟨0, .off⟩).g) os' scr) = true ∧ R' .any (offs (fun j => (os'.getD j ⟨0, .off⟩).g) os' scr)) : ACo P f args os R' := fun F ρ w vs h1 h2 h3 =>
  (h F ρ w vs h1 h2 h3).mono fun _ _ ⟨v, y, ρ', os', a, b, c, d, e, g, r⟩ => by
    obtain ⟨scr, hc, r'⟩ := hR y os' r
    obtain ⟨b', mv⟩ := b.offs scr (fun j => (os'.getD j ⟨0, .off⟩).g) (fun j tk hj => by simp [List.getD, hj])
    exact ⟨v, .any, ρ', _, a, b', (offs_get _ scr os' 0).1.trans c, hc, rfl, .any _, r'⟩
theorem rest_open_any {k : Nat} {F : Files} {d : DiskD} {E c : Nat} {hh : List UInt8} {R : Int} (h : Rest R k F d) (hk : k ≤ 900000) (hs : SI byteN F 0 c E hh) (h1 h2 h3 : Nat) : ACo Try.prog 58 [.bx 0 1 0, .sc (tabV byteN)] [⟨1, .obj (DiskP d)⟩, ⟨h1, .off⟩, ⟨h2, .off⟩, ⟨h3, .off⟩] (fun y os => ∃ a b e, y = .any ∧ os = [⟨1, .obj (DiskP (openD byteN d (vfile E)))⟩, ⟨a, .off⟩, ⟨b, .off⟩, ⟨e, .off⟩]) := by
  have hn := h.n
  rw [← hn] at hs
  by_cases ho : openR byteN d (vfile E) = 0
  · refine (vopen_ok byteN byte_tab d h.gro.ok hk 1 h1 h2 h3 h.dark (S := ⟨0, c, E, hh, false⟩) (e := E) hs.opened rfl rfl rfl ho).forget ?_
    rintro y os ⟨rfl, rfl⟩
    exact ⟨[1, 2, 3], rfl, _, _, _, rfl, rfl⟩
  · refine (vopen_no byteN byte_tab d h.gro.ok hk 1 h1 h2 h3 h.dark (S := ⟨0, c, E, hh, false⟩) (e := E) hs.opened rfl rfl rfl ho).forget ?_
    rintro y os ⟨rfl, rfl⟩
    exact ⟨[1, 2, 3], rfl, _, _, _, rfl, rfl⟩
theorem rd_st0n {o : Oper} {t : List AV} {st : List TK} (ho : o.op = .build 87 #[]) : ARd Try.prog o t st (.ag [.sc (.int .i64 0), .sl (byA []), .sc (.slice none 0 0), .sc (.int .i64 0)]) := by
  refine rd_nilcell (cs := [.sc (.int .i64 0), .sc (.slice none 0 0), .sc (.slice none 0 0), .sc (.int .i64 0)]) (rd_build (qs := []) ho pl_87 ze_St rfl rfl) rfl fun j x y hx hy => ?_
  rcases (by omega : j = 0 ∨ j = 1 ∨ j = 2 ∨ j = 3 ∨ 4 ≤ j) with rfl | rfl | rfl | rfl | h4
  · simp at hx hy; subst hx hy; exact .inl rfl
  · simp at hx hy; subst hx hy; exact .inr ⟨rfl, rfl⟩
  · simp at hx hy; subst hx hy; exact .inl rfl
  · simp at hx hy; subst hx hy; exact .inl rfl
  · rw [List.getElem?_eq_none (by simp; omega)] at hx; cases hx
theorem rd_stn {o : Oper} {t : List AV} {st : List TK} {a b c : AV} (h : ARd Try.prog o t st (.ag [a, b, .sc (.slice none 0 0), c])) : ARd Try.prog o t st (.ag [a, b, .sl (rowsA []), c]) := by
  refine rd_nilcell h rfl fun j x y hx hy => ?_
  rcases (by omega : j = 0 ∨ j = 1 ∨ j = 2 ∨ j = 3 ∨ 4 ≤ j) with rfl | rfl | rfl | rfl | h4
  · simp at hx hy; subst hx hy; exact .inl rfl
  · simp at hx hy; subst hx hy; exact .inl rfl
  · simp at hx hy; subst hx hy; exact .inr ⟨rfl, rfl⟩
  · simp at hx hy; subst hx hy; exact .inl rfl
  · rw [List.getElem?_eq_none (by simp; omega)] at hx; cases hx
theorem rd_stld {o : Oper} {t : List AV} {st : List TK} {x : Operand} {k g ty : Nat} {a b c : AV} (ho : o.op = .load 87 x) (hx : evA t x = .bx k g 0) (hk : st[k]? = some ⟨g, .box ty [a, b, .sc (.slice none 0 0), c]⟩) : ARd Try.prog o t st (.ag [a, b, .sl (rowsA []), c]) := rd_stn (rd_loadN_bx ho ag_87 hx hk (Nat.le_of_ble_eq_true rfl) rfl)
theorem vsame_t (e f : Int) (f2 : Int) (b : List UInt8) (r : List (List UInt8)) (h1 : b.length ≤ 1000000) (h3 : r.length ≤ 1000000) (h5 : ∀ x ∈ r, x.length ≤ 1000000) : AC Try.prog 59 [.ag [.sc (.int .i64 e), .sl (byA b), .sl (rowsA r), .sc (.int .i64 f)], .ag [.sc (.int .i64 e), .sl (byA b), .sl (rowsA r), .sc (.int .i64 f2)]] (fun y => y = .s (.sc (.bool true))) := by
  have := vsame_c e e f f2 b b r r h1 h1 h3 h3 h5 h5
  rwa [decide_eq_true ⟨rfl, rfl, rfl⟩] at this
theorem Fin.a {E su ne E2 : Nat} {hh nb h2 : List UInt8} {rs rs2 : List (List UInt8)} {fo : Bool} (h : Fin E hh rs su ne nb fo E2 h2 rs2) (hn : fo = true → ¬ (E2 = ne ∧ h2 = nb ∧ rs2 = [])) : E2 = E ∧ h2 = hh ∧ ∃ m, su ≤ m ∧ m ≤ rs.length ∧ rs2 = rs.take m := by
  rcases h with h | ⟨a, b, c, d⟩
  · exact h
  · exact absurd ⟨b, c, d⟩ (hn a)
end Go.Proofs.Ytgjpeldgjpgbcaa
