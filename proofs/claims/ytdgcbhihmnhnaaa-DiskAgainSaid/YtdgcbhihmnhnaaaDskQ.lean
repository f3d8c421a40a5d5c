/- What a sync and a crash leave, plain. -/
import Derived.Test.YtdgcbhihmnhnaaaDskL
namespace Go.Proofs.Ytdgcbhihmnhnaaa
set_option linter.unusedSimpArgs false
set_option linter.unusedVariables false
open Go.RowKit

/-! Calls with no fuse. -/
structure Calm (k : Nat) (d : DiskD) : Prop where
  ok : d.Ok k
  room : d.room = 200000
  fused : d.fused = false
  dark : d.dark = false
  tot : Go.Proofs.Ytdgcbhihmnhnaaa.tot d.n ≤ 300 * k
theorem calm_new : Calm 0 (newD 200000) := ⟨okNew (by omega), rfl, rfl, rfl, by decide⟩
section
variable {k : Nat} {d : DiskD}
theorem burnN_calm (h : d.fused = false) (n : Int) : burnN d n = n := by unfold burnN; rw [h]; simp
theorem burnD_n (d : DiskD) (n : Int) : (burnD d n).n = d.n := rfl
theorem pushD_tot {i : Nat} (hi : i < 4) (x : List UInt8) (n : Int) : Go.Proofs.Ytdgcbhihmnhnaaa.tot (pushD d i x n).n = Go.Proofs.Ytdgcbhihmnhnaaa.tot d.n + x.length := by
  have := tot_upd (s := d.n) hi (d.n i ++ x)
  show Go.Proofs.Ytdgcbhihmnhnaaa.tot (upd d.n i (d.n i ++ x)) = _
  simp only [List.length_append] at this
  omega
theorem appD_tot {f : Int} {b : List UInt8} : Go.Proofs.Ytdgcbhihmnhnaaa.tot (appDi d f b).n ≤ Go.Proofs.Ytdgcbhihmnhnaaa.tot d.n + b.length := by
  unfold appDi
  split
  · unfold appD
    split
    · omega
    · split
      · omega
      · split
        · rw [pushD_tot (by omega), burnD_n, List.length_take]; omega
        · rw [burnD_n]; omega
  · omega
theorem appD_room (f : Int) (b : List UInt8) : (appDi d f b).room = d.room := by
  unfold appDi appD
  repeat' split
  all_goals rfl
theorem appD_fused (f : Int) (b : List UInt8) : (appDi d f b).fused = d.fused := by
  unfold appDi appD
  repeat' split
  all_goals rfl
theorem burnD_dark (h : d.fused = false) (n : Int) : (burnD d n).dark = d.dark := by unfold burnD; simp [h]
theorem appD_dark (h : d.fused = false) (f : Int) (b : List UInt8) : (appDi d f b).dark = d.dark := by
  unfold appDi appD
  repeat' split
  all_goals first | rfl | exact burnD_dark h _
theorem cutD_room (f n : Int) : (cutDi d f n).room = d.room := by
  unfold cutDi cutD
  repeat' split
  all_goals rfl
theorem cutD_fused (f n : Int) : (cutDi d f n).fused = d.fused := by
  unfold cutDi cutD
  repeat' split
  all_goals rfl
theorem cutD_dark (h : d.fused = false) (f n : Int) : (cutDi d f n).dark = d.dark := by
  unfold cutDi cutD
  repeat' split
  all_goals first | rfl | exact burnD_dark h _
theorem cutD_tot (f n : Int) : Go.Proofs.Ytdgcbhihmnhnaaa.tot (cutDi d f n).n ≤ Go.Proofs.Ytdgcbhihmnhnaaa.tot d.n := by
  unfold cutDi
  split
  · unfold cutD
    split
    · exact Nat.le_refl _
    · split
      · exact Nat.le_refl _
      · split
        · exact Nat.le_refl _
        · have := tot_upd (s := d.n) (i := f.toNat) (by omega) ((d.n f.toNat).take n.toNat)
          show Go.Proofs.Ytdgcbhihmnhnaaa.tot (upd d.n f.toNat ((d.n f.toNat).take n.toNat)) ≤ _
          simp only [List.length_take] at this
          omega
  · exact Nat.le_refl _
theorem Calm.app (h : Calm k d) (f : Int) {b : List UInt8} (hb : b.length ≤ 300) : Calm (k + 1) (appDi d f b) :=
  ⟨h.ok.app f b, (appD_room f b).trans h.room, (appD_fused f b).trans h.fused, (appD_dark h.fused f b).trans h.dark, by have := appD_tot (d := d) (f := f) (b := b); have := h.tot; omega⟩
theorem Calm.cut (h : Calm k d) (f n : Int) : Calm (k + 1) (cutDi d f n) :=
  ⟨h.ok.cut f n, (cutD_room f n).trans h.room, (cutD_fused f n).trans h.fused, (cutD_dark h.fused f n).trans h.dark, by have := cutD_tot (d := d) f n; have := h.tot; omega⟩
theorem Calm.mono {m : Nat} (h : Calm k d) (hk : k ≤ m) : Calm m d := ⟨h.ok.mono hk, h.room, h.fused, h.dark, by have := h.tot; omega⟩
theorem calm_syncR (h : Calm k d) : syncR d = 0 := by unfold syncR; rw [h.dark, burnN_calm h.fused]; simp
theorem calm_sync (h : Calm k d) : (syncD d).n = d.n ∧ (syncD d).l = d.n ∧ (syncD d).q = [] ∧ (syncD d).room = 200000 ∧ (syncD d).fused = false ∧ (syncD d).dark = false := by
  have e : syncD d = settleD (burnD d 1) d.waits := (sync_go h.dark (by rw [burnN_calm h.fused]; decide)).2
  have e2 := settle_waits (h.ok.burn 1 (by omega))
  rw [e]
  exact ⟨rfl, e2, rfl, h.room, h.fused, (burnD_dark h.fused 1).trans h.dark⟩
end
/-! What comes since. -/
def qf : List DeedD → Nat → List UInt8
  | [], _ => []
  | w :: q, i => (if i = w.file then w.bytes else []) ++ qf q i
theorem qf_app (q : List DeedD) (w : DeedD) (i : Nat) : qf (q ++ [w]) i = qf q i ++ (if i = w.file then w.bytes else []) := by
  induction q with
  | nil => simp [qf]
  | cons x q ih => simp [qf, ih]
structure Since (base came : Files) (j : Nat) (d : DiskD) : Prop where
  ok : d.Ok (60 + j)
  room : d.room = 200000
  l : d.l = base
  nocut : ∀ w ∈ d.q, w.cut = false
  pre : ∀ i, i < 4 → qf d.q i <+: came i
  eq : d.dark = false → ∀ i, i < 4 → qf d.q i = came i
  tot : Go.Proofs.Ytdgcbhihmnhnaaa.tot d.n ≤ 18000 + 300 * j
  cl : ∀ i, (came i).length ≤ 300 * j
theorem since_go {k : Nat} {d : DiskD} (h : Calm k d) (hk : k ≤ 60) (fuse : Int) (hf : fuse < 9223372036854775808) : Since d.n (fun _ => []) 0 (fuseD (syncD d) fuse) := by
  obtain ⟨h1, h2, h3, h4, h5, h6⟩ := calm_sync h
  refine ⟨((h.ok.sync).mono (by omega)).fuseD fuse hf, h4, h2, ?_, ?_, ?_, ?_, fun _ => Nat.zero_le _⟩
  · show ∀ w ∈ (syncD d).q, _
    rw [h3]; intro w hw; cases hw
  · intro i _
    show qf (syncD d).q i <+: []
    rw [h3]; exact List.prefix_refl _
  · intro _ i _
    show qf (syncD d).q i = []
    rw [h3]; rfl
  · show Go.Proofs.Ytdgcbhihmnhnaaa.tot (syncD d).n ≤ _
    rw [h1]
    have := h.tot
    omega
theorem Since.app {base came : Files} {j : Nat} {d : DiskD} (h : Since base came j d) (hj : j ≤ 60) {f : Nat} (hf : f < 4) {b : List UInt8} (hb : b.length ≤ 300) : Since base (upd came f (came f ++ b)) (j + 1) (appDi d f b) := by
  have ht := h.tot
  have hpre : ∀ i, i < 4 → qf d.q i <+: upd came f (came f ++ b) i := fun i hi => by
    unfold upd
    split
    · rename_i e; subst e; exact (h.pre i hi).trans (List.prefix_append _ _)
    · exact h.pre i hi
  have hcl : ∀ i, (upd came f (came f ++ b) i).length ≤ 300 * (j + 1) := fun i => by
    unfold upd
    split
    · have := h.cl f; rw [List.length_append]; omega
    · have := h.cl i; omega
  have hok := h.ok.app f b
  have htot : Go.Proofs.Ytdgcbhihmnhnaaa.tot (appDi d f b).n ≤ 18000 + 300 * (j + 1) := by have := appD_tot (d := d) (f := f) (b := b); omega
  have hroom := (appD_room (d := d) (f : Int) b).trans h.room
  have hl : (appDi d f b).l = base := by
    rw [← h.l]
    unfold appDi appD
    repeat' split
    all_goals rfl
  have e : appDi d f b = appD d f b := by unfold appDi; rw [if_pos (by omega), Int.toNat_natCast]
  rw [e] at hok htot hroom hl ⊢
  cases hd : d.dark with
  | true =>
    have e2 : appD d f b = d := (app_dark (b := b) (i := f) hd).2
    rw [e2] at hok htot hroom hl ⊢
    exact ⟨hok, hroom, hl, h.nocut, hpre, fun h' => (by rw [hd] at h'; cases h'), htot, hcl⟩
  | false =>
    have hleft : ¬ leftD d < b.length := by rw [leftD_eq, h.room]; omega
    have hbn := burnN_le' h.ok (n := b.length) (by omega)
    have heq := h.eq hd
    by_cases h0 : 0 < burnN d b.length
    · have e2 := (app_go (i := f) hd hleft h0 rfl).2
      rw [e2] at hok htot hroom hl ⊢
      have hq : (pushD (burnD d b.length) f (b.take (burnN d b.length).toNat) (burnN d b.length)).q = d.q ++ [⟨f, false, 0, b.take (burnN d b.length).toNat⟩] := rfl
      refine ⟨hok, hroom, hl, ?_, fun i hi => ?_, fun hdk i hi => ?_, htot, hcl⟩
      · rw [hq]
        intro w hw
        rcases List.mem_append.1 hw with hw | hw
        · exact h.nocut w hw
        · rw [List.mem_singleton.1 hw]
      · rw [hq, qf_app, heq i hi]
        unfold upd
        simp only
        split
        · rename_i e3; subst e3; exact (List.prefix_append_right_inj _).2 (List.take_prefix _ _)
        · rw [List.append_nil]; exact List.prefix_refl _
      · have hdk' : (burnD d b.length).dark = false := hdk
        have hfull : burnN d b.length = b.length := by
          unfold burnD at hdk'
          unfold burnN
          simp only at hdk'
          split at hdk'
          · cases hdk'
          · rename_i hn; rw [if_neg hn]
        rw [hq, qf_app, heq i hi, hfull, Int.toNat_natCast, List.take_length]
        unfold upd
        simp only
        split <;> simp_all
    · have e2 := (app_no (i := f) hd hleft h0 rfl).2
      rw [e2] at hok htot hroom hl ⊢
      have hq : (burnD d b.length).q = d.q := rfl
      refine ⟨hok, hroom, hl, h.nocut, fun i hi => by rw [hq]; exact hpre i hi, fun hdk i hi => ?_, htot, hcl⟩
      have hfull : burnN d b.length = b.length := by
        unfold burnD at hdk
        unfold burnN
        simp only at hdk
        split at hdk
        · cases hdk
        · rename_i hn; rw [if_neg hn]
      have hb0 : b = [] := List.eq_nil_of_length_eq_zero (by omega)
      rw [hq, heq i hi]
      unfold upd
      split <;> simp_all
theorem Since.skip {base came : Files} {j : Nat} {d : DiskD} (h : Since base came j d) : Since base came (j + 1) d := ⟨h.ok.mono (by omega), h.room, h.l, h.nocut, h.pre, h.eq, by have := h.tot; omega, fun i => by have := h.cl i; omega⟩
theorem settle_since {room : Nat} : ∀ (q : List DeedD) (s : Files) (kp : Int), okR room q s → (∀ w ∈ q, w.cut = false) → ∃ r : Files, (∀ i, r i <+: qf q i) ∧ (∀ i, settleF q kp s i = s i ++ r i) ∧ ((Go.Proofs.Ytdgcbhihmnhnaaa.tot r : Nat) : Int) ≤ (if kp < 0 then 0 else kp)
  | [], s, kp, _, _ => ⟨fun _ => [], fun i => List.prefix_refl _, fun i => by simp [settleF], by simp [Go.Proofs.Ytdgcbhihmnhnaaa.tot]; split <;> omega⟩
  | w :: q, s, kp, h, hc => by
    have hcw := hc w List.mem_cons_self
    have hcount : w.count = w.bytes.length := by unfold DeedD.count; rw [hcw]; rfl
    by_cases h0 : cntN w kp ≤ 0
    · refine ⟨fun _ => [], fun i => List.nil_prefix, fun i => by unfold settleF; rw [if_pos h0]; simp, ?_⟩; simp [Go.Proofs.Ytdgcbhihmnhnaaa.tot]; split <;> omega
    · have hle : cntN w kp ≤ kp ∧ cntN w kp ≤ w.count := by unfold cntN; split <;> omega
      have hstep : ∀ n, stepF w n s = upd s w.file (s w.file ++ w.bytes.take n) := fun n => by unfold stepF; rw [hcw]; rfl
      rcases cntN_full (w := w) (kp := kp) (by omega) with e | e
      · refine ⟨upd (fun _ => []) w.file (w.bytes.take (cntN w kp).toNat), fun i => ?_, fun i => ?_, ?_⟩
        · unfold upd qf
          split
          · exact (List.take_prefix _ _).trans (List.prefix_append _ _)
          · exact List.nil_prefix
        · unfold settleF
          rw [if_neg h0, settleF_stop q _ e, hstep]
          unfold upd
          split
          · rename_i e2; rw [e2]
          · simp
        · have := tot_upd (s := fun _ => []) h.2.1 (w.bytes.take (cntN w kp).toNat)
          have h0t : Go.Proofs.Ytdgcbhihmnhnaaa.tot (fun _ => []) = 0 := rfl
          simp only [List.length_take, h0t, List.length_nil] at this
          rw [if_neg (by omega)]
          omega
      · obtain ⟨r, h1, h2, h3⟩ := settle_since q (stepF w w.count s) (kp - cntN w kp) h.2.2.2.2 (fun x hx => hc x (List.mem_cons_of_mem _ hx))
        have hcn : cntN w kp = w.bytes.length := by omega
        have htake : w.bytes.take w.count = w.bytes := by rw [hcount, List.take_length]
        refine ⟨upd r w.file (w.bytes ++ r w.file), fun i => ?_, fun i => ?_, ?_⟩
        · unfold upd qf
          split
          · rename_i e2; rw [e2]; exact (List.prefix_append_right_inj _).2 (h1 _)
          · exact h1 i
        · unfold settleF
          rw [if_neg h0, e, h2 i, hstep, htake]
          unfold upd
          split
          · rename_i e2; rw [e2, List.append_assoc]
          · rfl
        · have := tot_upd (s := r) h.2.1 (w.bytes ++ r w.file)
          simp only [List.length_append] at this
          rw [if_neg (by omega)] at h3 ⊢
          omega
/-- What the crash leaves. -/
theorem Since.crash {base came : Files} {j : Nat} {d : DiskD} (h : Since base came j d) (keep : Int) : ∃ r : Files, (∀ i, i < 4 → r i <+: came i) ∧ (∀ i, (crashD d keep).n i = base i ++ r i) ∧ ((Go.Proofs.Ytdgcbhihmnhnaaa.tot r : Nat) : Int) ≤ (if keep < 0 then 0 else keep) := by
  obtain ⟨r, h1, h2, h3⟩ := settle_since d.q d.l keep h.ok.okr h.nocut
  refine ⟨r, fun i hi => (h1 i).trans (h.pre i hi), fun i => ?_, h3⟩
  show (settleD d keep).l i = _
  rw [h.ok.sl, h2, h.l]
end Go.Proofs.Ytdgcbhihmnhnaaa
