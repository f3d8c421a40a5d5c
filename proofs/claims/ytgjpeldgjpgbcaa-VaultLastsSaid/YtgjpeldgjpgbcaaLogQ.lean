/- What comes to a disk since a beginning, plain: appends, syncs, crashes. No conditions. -/
import Derived.Test.YtgjpeldgjpgbcaaLogP
import Derived.Test.YtgjpeldgjpgbcaaLogC
namespace Go.Proofs.Ytgjpeldgjpgbcaa
set_option linter.unusedSimpArgs false
set_option linter.unusedVariables false
open Go.RowKit

theorem allF_nocut : ∀ (q : List DeedD) (s : Files), (∀ w ∈ q, w.cut = false) → ∀ i, allF q s i = s i ++ qf q i
  | [], s, _, i => by simp [allF, qf]
  | w :: q, s, h, i => by
    have hc := h w List.mem_cons_self
    have e : stepF w w.count s = upd s w.file (s w.file ++ w.bytes) := by unfold stepF DeedD.count; rw [hc]; simp
    rw [allF, allF_nocut q _ (fun x hx => h x (List.mem_cons_of_mem _ hx)), e, qf]
    unfold upd
    split
    · rename_i e2; rw [e2, List.append_assoc]
    · simp
structure Gro (R : Int) (K : Nat) (base came : Files) (d : DiskD) : Prop where
  ok : d.Ok K
  room : d.room = R
  l : d.l = base
  nocut : ∀ w ∈ d.q, w.cut = false
  pre : ∀ i, i < 4 → qf d.q i <+: came i
  eq : d.dark = false → ∀ i, i < 4 → qf d.q i = came i
section
variable {R : Int} {K : Nat} {base came : Files} {d : DiskD}
theorem Gro.n (h : Gro R K base came d) (i : Nat) : d.n i = base i ++ qf d.q i := by rw [h.ok.now, allF_nocut _ _ h.nocut, h.l]
theorem Gro.nn (h : Gro R K base came d) (hd : d.dark = false) {i : Nat} (hi : i < 4) : d.n i = base i ++ came i := by rw [h.n, h.eq hd i hi]
theorem Gro.tot (h : Gro R K base came d) : Go.Proofs.Ytgjpeldgjpgbcaa.tot d.n ≤ Go.Proofs.Ytgjpeldgjpgbcaa.tot base + Go.Proofs.Ytgjpeldgjpgbcaa.tot came := by
  have a0 := (h.pre 0 (by omega)).length_le
  have a1 := (h.pre 1 (by omega)).length_le
  have a2 := (h.pre 2 (by omega)).length_le
  have a3 := (h.pre 3 (by omega)).length_le
  unfold Go.Proofs.Ytgjpeldgjpgbcaa.tot
  rw [h.n, h.n, h.n, h.n]
  simp only [List.length_append]
  omega
theorem Gro.mono {m : Nat} (h : Gro R K base came d) (hk : K ≤ m) : Gro R m base came d := ⟨h.ok.mono hk, h.room, h.l, h.nocut, h.pre, h.eq⟩
theorem Gro.fuse (h : Gro R K base came d) (n : Int) (hn : n < 9223372036854775808) : Gro R K base came (fuseD d n) := ⟨h.ok.fuseD n hn, h.room, h.l, h.nocut, h.pre, h.eq⟩
theorem gro_new {R : Int} (hR : 1 ≤ R ∧ R ≤ 200000) : Gro R 0 (fun _ => []) (fun _ => []) (newD R) := ⟨okNew hR, rfl, rfl, fun w hw => (by cases hw), fun i _ => List.prefix_refl _, fun _ i _ => rfl⟩
theorem burn_full {n : Int} (h : (burnD d n).dark = false) : burnN d n = n := by
  unfold burnD at h
  unfold burnN
  simp only at h
  split at h
  · cases h
  · rename_i hn; rw [if_neg hn]
theorem burn_dk {n : Int} (h : d.dark = false) : (burnD d n).dark = true ∨ (burnD d n).dark = false := by cases (burnD d n).dark <;> simp
theorem Gro.app (h : Gro R K base came d) {f : Nat} (hf : f < 4) {b : List UInt8} (hR : ((Go.Proofs.Ytgjpeldgjpgbcaa.tot base + Go.Proofs.Ytgjpeldgjpgbcaa.tot came + b.length : Nat) : Int) ≤ R) :
    Gro R (K + 1) base (upd came f (came f ++ b)) (appDi d f b) ∧ (d.dark = true → appRi d f b = 10 ∧ appDi d f b = d) ∧ (d.dark = false → (appRi d f b = 0 ∧ (appDi d f b).dark = false) ∨ (appRi d f b = 10 ∧ (appDi d f b).dark = true)) := by
  have ht := h.tot
  have hpre : ∀ i, i < 4 → qf d.q i <+: upd came f (came f ++ b) i := fun i hi => by
    unfold upd
    split
    · rename_i e; subst e; exact (h.pre i hi).trans (List.prefix_append _ _)
    · exact h.pre i hi
  have hok := h.ok.app f b
  have hroom := (appD_room (d := d) (f : Int) b).trans h.room
  have hl : (appDi d f b).l = base := by
    rw [← h.l]
    unfold appDi appD
    repeat' split
    all_goals rfl
  have e : appDi d f b = appD d f b := by unfold appDi; rw [if_pos (by omega), Int.toNat_natCast]
  have eR : appRi d f b = appR d b := by unfold appRi; rw [if_pos (by omega)]
  rw [eR]
  rw [e] at hok hroom hl ⊢
  cases hd : d.dark with
  | true =>
    obtain ⟨e1, e2⟩ := app_dark (b := b) (i := f) hd
    rw [e2] at hok hroom hl ⊢
    exact ⟨⟨hok, hroom, hl, h.nocut, hpre, fun h' => (by rw [hd] at h'; cases h')⟩, fun _ => ⟨e1, rfl⟩, fun h' => by cases h'⟩
  | false =>
    have hleft : ¬ leftD d < b.length := by rw [leftD_eq, h.room]; omega
    have hbn := burnN_le' h.ok (n := b.length) (by omega)
    have heq := h.eq hd
    have hfin : ∀ (c : Int) (D : DiskD), c = (if (burnD d b.length).dark = true then 10 else 0) → D.dark = (burnD d b.length).dark → (c = 0 ∧ D.dark = false) ∨ (c = 10 ∧ D.dark = true) := fun c D hc hD => by
      rw [hc, hD]
      cases (burnD d b.length).dark with
      | true => exact .inr ⟨rfl, rfl⟩
      | false => exact .inl ⟨rfl, rfl⟩
    by_cases h0 : 0 < burnN d b.length
    · obtain ⟨e1, e2⟩ := app_go (i := f) hd hleft h0 rfl
      rw [e2] at hok hroom hl ⊢
      have hq : (pushD (burnD d b.length) f (b.take (burnN d b.length).toNat) (burnN d b.length)).q = d.q ++ [⟨f, false, 0, b.take (burnN d b.length).toNat⟩] := rfl
      refine ⟨⟨hok, hroom, hl, ?_, fun i hi => ?_, fun hdk i hi => ?_⟩, (fun h' => by cases h'), fun _ => hfin _ _ e1 rfl⟩
      · rw [hq]
        intro w hw
        rcases List.mem_append.1 hw with hw | hw
        · exact h.nocut w hw
        · rw [List.mem_singleton.1 hw]
      · rw [hq, qf_app, heq i hi]
        unfold upd
        simp only
        split
        · rename_i e3; subst e3; exact (List.prefix_append_right_inj _).2 (List.take_prefix _ _)
        · rw [List.append_nil]; exact List.prefix_refl _
      · have hfull := burn_full (d := d) (n := b.length) hdk
        rw [hq, qf_app, heq i hi, hfull, Int.toNat_natCast, List.take_length]
        unfold upd
        simp only
        split <;> simp_all
    · obtain ⟨e1, e2⟩ := app_no (i := f) hd hleft h0 rfl
      rw [e2] at hok hroom hl ⊢
      have hq : (burnD d b.length).q = d.q := rfl
      refine ⟨⟨hok, hroom, hl, h.nocut, fun i hi => by rw [hq]; exact hpre i hi, fun hdk i hi => ?_⟩, (fun h' => by cases h'), fun _ => hfin _ _ e1 rfl⟩
      have hfull := burn_full (d := d) (n := b.length) hdk
      have hb0 : b = [] := List.eq_nil_of_length_eq_zero (by omega)
      rw [hq, heq i hi, hb0]
      unfold upd
      split
      · rename_i e3; rw [e3, List.append_nil]
      · rfl
/-- Nothing waits. -/
structure Rest (R : Int) (K : Nat) (F : Files) (d : DiskD) : Prop where
  gro : Gro R K F (fun _ => []) d
  q : d.q = []
  dark : d.dark = false
theorem Rest.n (h : Rest R K base d) : d.n = base := by
  funext i
  rw [h.gro.n, h.q]; simp [qf]
theorem Rest.mono {m : Nat} (h : Rest R K base d) (hk : K ≤ m) : Rest R m base d := ⟨h.gro.mono hk, h.q, h.dark⟩
theorem Rest.fuse (h : Rest R K base d) (n : Int) (hn : n < 9223372036854775808) : Rest R K base (fuseD d n) := ⟨h.gro.fuse n hn, h.q, h.dark⟩
theorem Rest.waits (h : Rest R K base d) : d.waits = 0 := by rw [h.gro.ok.w, h.q]; rfl
theorem rest_new {R : Int} (hR : 1 ≤ R ∧ R ≤ 200000) : Rest R 0 (fun _ => []) (newD R) := ⟨gro_new hR, rfl, rfl⟩
theorem rest_of (hok : d.Ok K) (hr : d.room = R) (hq : d.q = []) (hd : d.dark = false) (hn : d.n = base) : Rest R K base d := by
  have hl : d.l = base := by rw [← hn, hok.now, hq]; rfl
  exact ⟨⟨hok, hr, hl, (by rw [hq]; intro w hw; cases hw), (by rw [hq]; exact fun i _ => List.prefix_refl _), by rw [hq]; exact fun _ i _ => rfl⟩, hq, hd⟩
theorem burn_one (hok : d.Ok K) : ((burnN d 1 = 0 ∧ (burnD d 1).dark = true) ∨ (burnN d 1 = 1 ∧ (burnD d 1).dark = d.dark)) := by
  have := hok.fuse
  unfold burnD burnN
  simp only
  split
  · rename_i h; left; exact ⟨by omega, rfl⟩
  · right; exact ⟨rfl, rfl⟩
theorem burn_one' (hf : d.fused = false) : burnN d 1 = 1 ∧ (burnD d 1).dark = d.dark := ⟨burnN_calm hf 1, burnD_dark hf 1⟩
theorem syncD_fused : (syncD d).fused = d.fused := by unfold syncD; repeat' split
                                                      all_goals rfl
theorem sync_ok (hok : d.Ok K) : (d.dark = true → syncR d = 10 ∧ syncD d = d) ∧ (d.dark = false → (syncR d = 0 ∧ (d.fused = false ∨ d.fused = true) ∧ Rest d.room K d.n (syncD d)) ∨ (syncR d = 10 ∧ syncD d = burnD d 1 ∧ (burnD d 1).dark = true ∧ d.fused = true)) := by
  refine ⟨sync_dark, fun hd => ?_⟩
  rcases burn_one hok with ⟨h1, h2⟩ | ⟨h1, h2⟩
  · right
    obtain ⟨e1, e2⟩ := sync_burn hd h1
    refine ⟨e1, e2, h2, ?_⟩
    cases hf : d.fused with
    | true => rfl
    | false => rw [(burn_one' hf).1] at h1; omega
  · left
    obtain ⟨e1, e2⟩ := sync_go hd (by omega)
    refine ⟨e1, by cases d.fused <;> simp, ?_⟩
    have hb := hok.burn 1 (by omega)
    exact rest_of hok.sync (by rw [e2]; rfl) (by rw [e2]; rfl) (by rw [e2]; exact h2.trans hd) (by rw [e2]; rfl)
theorem Gro.burn (h : Gro R K base came d) (n : Int) (hn : 0 ≤ n) (hd : (burnD d n).dark = true ∨ (burnD d n).dark = d.dark) : Gro R K base came (burnD d n) :=
  ⟨h.ok.burn n hn, h.room, h.l, h.nocut, h.pre, fun h' => by
    rcases hd with e | e
    · rw [e] at h'; cases h'
    · exact h.eq (e.symm.trans h')⟩
theorem Gro.crash (h : Gro R K base came d) (keep : Int) : ∃ r : Files, (∀ i, i < 4 → r i <+: came i) ∧ Rest R K (fun i => base i ++ r i) (crashD d keep) ∧ (crashD d keep).fused = false := by
  obtain ⟨r, h1, h2, h3⟩ := settle_since d.q d.l keep h.ok.okr h.nocut
  refine ⟨r, fun i hi => (h1 i).trans (h.pre i hi), rest_of (h.ok.crash keep) h.room rfl rfl ?_, rfl⟩
  funext i
  show (settleD d keep).l i = _
  rw [h.ok.sl, h2, h.l]
/-- A file is cut. -/
theorem cut_ok (hok : d.Ok K) {f : Nat} (hf : f < 4) {n : Nat} (hn : n ≤ (d.n f).length) (hd : d.dark = false) : (cutR d f n = 10 ∧ cutD d f n = burnD d 1 ∧ (burnD d 1).dark = true ∧ d.fused = true) ∨ (cutR d f n = 0 ∧ cutD d f n = cutD1 (burnD d 1) f n ∧ (cutD d f n).dark = false) := by
  rcases burn_one hok with ⟨h1, h2⟩ | ⟨h1, h2⟩
  · left
    obtain ⟨e1, e2⟩ := cut_burn (d := d) (i := f) (n := n) (by omega) (by omega) hd h1
    refine ⟨e1, e2, h2, ?_⟩
    cases hfu : d.fused with
    | true => rfl
    | false => rw [(burn_one' hfu).1] at h1; omega
  · right
    obtain ⟨e1, e2⟩ := cut_go (d := d) (i := f) (n := n) (by omega) (by omega) hd (by omega)
    rw [Int.toNat_natCast] at e2
    exact ⟨e1, e2, by rw [e2]; exact h2.trans hd⟩
/-- What a crash leaves where just one cut waits. -/
theorem cut_crash (h : Rest R K base d) {f : Nat} (hf : f < 4) {n : Nat} (hn : n ≤ (base f).length) (keep : Int) : ∃ F : Files, Rest R (K + 1) F (crashD (cutD1 (burnD d 1) f n) keep) ∧ (F = base ∨ F = upd base f ((base f).take n)) := by
  have hok := okCut1 (h.gro.ok.burn 1 (by omega)) hf (n := n) (by show n ≤ (d.n f).length; rw [h.n]; exact hn)
  have hl : (cutD1 (burnD d 1) f n).l = base := h.gro.l
  have hq : (cutD1 (burnD d 1) f n).q = [⟨f, true, n, []⟩] := by show d.q ++ [_] = _; rw [h.q]; rfl
  have e : (crashD (cutD1 (burnD d 1) f n) keep).n = settleF [⟨f, true, n, []⟩] keep base := by
    show (settleD (cutD1 (burnD d 1) f n) keep).l = _
    rw [hok.sl, hq, hl]
  refine ⟨_, rest_of (hok.crash keep) h.gro.room rfl rfl e, ?_⟩
  unfold settleF
  split
  · exact .inl rfl
  · right
    unfold settleF stepF
    simp
end
/-! A log is opened. -/
section
variable {t : Nat → Nat} {R : Int} {K : Nat} {F : Files} {d : DiskD} {f : Nat}
theorem openD_Ok (hok : d.Ok K) (hf : f < 4) : (openD t d f).Ok (K + 1) := by
  have h1 := cutD_Ok hok hf (scanN t (d.n f)).2
  unfold openD
  repeat' split
  · exact hok.mono (by omega)
  · exact h1.sync
  · exact h1
  · exact hok.mono (by omega)
theorem Rest.open_crash (h : Rest R K F d) (hf : f < 4) (keep : Int) : ∃ F' : Files, Rest R (K + 1) F' (crashD (openD t d f) keep) ∧ (crashD (openD t d f) keep).fused = false ∧ (F' = F ∨ F' = upd F f ((F f).take (scanN t (F f)).2)) := by
  have hn : d.n f = F f := by rw [h.n]
  have hle := scanN_le t (F f)
  have hself : ∀ D : DiskD, Gro R K F (fun _ => []) D → Rest R (K + 1) F (crashD D keep) := fun D hD => by
    obtain ⟨r, h1, h2, _⟩ := hD.crash keep
    have e : (fun i => F i ++ r i) = F := by
      funext i
      rcases Nat.lt_or_ge i 4 with hi | hi
      · rw [List.prefix_nil.1 (h1 i hi), List.append_nil]
      · have a := h2.gro.ok.nbig i hi
        rw [h2.n] at a
        obtain ⟨a1, a2⟩ := List.append_eq_nil_iff.1 a
        rw [a1, a2]; rfl
    rw [e] at h2
    exact h2.mono (by omega)
  by_cases hw : (scanN t (d.n f)).2 < (d.n f).length
  · rw [hn] at hw
    rcases cut_ok h.gro.ok hf (n := (scanN t (F f)).2) (by rw [hn]; exact hle) h.dark with ⟨c1, c2, c3, c4⟩ | ⟨c1, c2, c3⟩
    · have e := (open_cut (t := t) (f := f) h.dark (by rw [hn]; exact hw) (by rw [hn, c1]; decide)).2
      rw [hn, c2] at e
      rw [e]
      exact ⟨F, hself _ (h.gro.burn 1 (by omega) (.inl c3)), rfl, .inl rfl⟩
    · have e := (open_sync (t := t) (f := f) h.dark (by rw [hn]; exact hw) (by rw [hn]; exact c1)).2
      rw [hn] at e
      rw [e]
      have hok := cutD_Ok h.gro.ok hf (scanN t (F f)).2
      rcases (sync_ok hok).2 c3 with ⟨_, _, s3⟩ | ⟨_, s2, s3, _⟩
      · have hr : (cutD d f (scanN t (F f)).2).room = R := by rw [c2]; exact h.gro.room
        have hN : (cutD d f (scanN t (F f)).2).n = upd F f ((F f).take (scanN t (F f)).2) := by rw [c2]; show upd d.n f ((d.n f).take _) = _; rw [h.n]
        rw [hr, hN] at s3
        refine ⟨_, ?_, rfl, .inr rfl⟩
        obtain ⟨r, h1, h2, _⟩ := s3.gro.crash keep
        have e : (fun i => upd F f ((F f).take (scanN t (F f)).2) i ++ r i) = upd F f ((F f).take (scanN t (F f)).2) := by
          funext i
          rcases Nat.lt_or_ge i 4 with hi | hi
          · rw [List.prefix_nil.1 (h1 i hi), List.append_nil]
          · have a := h2.gro.ok.nbig i hi
            rw [h2.n] at a
            obtain ⟨a1, a2⟩ := List.append_eq_nil_iff.1 a
            rw [a1, a2]; rfl
        rw [e] at h2
        exact h2
      · rw [s2, c2]
        obtain ⟨F', g1, g2⟩ := cut_crash h hf hle keep
        have e : crashD (burnD (cutD1 (burnD d 1) f (scanN t (F f)).2) 1) keep = { crashD (cutD1 (burnD d 1) f (scanN t (F f)).2) keep with done := (crashD (burnD (cutD1 (burnD d 1) f (scanN t (F f)).2) 1) keep).done } := rfl
        refine ⟨F', ?_, rfl, g2⟩
        rw [e]
        exact rest_of ⟨g1.gro.ok.room, g1.gro.ok.fuse, g1.gro.ok.now, g1.gro.ok.okr, g1.gro.ok.w, g1.gro.ok.ql, g1.gro.ok.qs, g1.gro.ok.big⟩ g1.gro.room g1.q g1.dark g1.n
  · have e := (open_whole (t := t) (f := f) h.dark hw).2
    rw [e]
    exact ⟨F, hself _ h.gro, rfl, .inl rfl⟩
theorem Rest.open_calm (h : Rest R K F d) (hf : f < 4) (hfu : d.fused = false) : openR t d f = 0 ∧ Rest R (K + 1) (upd F f ((F f).take (scanN t (F f)).2)) (openD t d f) ∧ (openD t d f).fused = false := by
  have hn : d.n f = F f := by rw [h.n]
  have hle := scanN_le t (F f)
  by_cases hw : (scanN t (d.n f)).2 < (d.n f).length
  · rw [hn] at hw
    rcases cut_ok h.gro.ok hf (n := (scanN t (F f)).2) (by rw [hn]; exact hle) h.dark with ⟨c1, c2, c3, c4⟩ | ⟨c1, c2, c3⟩
    · rw [hfu] at c4; cases c4
    · obtain ⟨e1, e⟩ := open_sync (t := t) (f := f) h.dark (by rw [hn]; exact hw) (by rw [hn]; exact c1)
      rw [hn] at e e1
      have hok := cutD_Ok h.gro.ok hf (scanN t (F f)).2
      have hcf : (cutD d f (scanN t (F f)).2).fused = false := by rw [c2]; exact hfu
      rcases (sync_ok hok).2 c3 with ⟨s1, _, s3⟩ | ⟨_, s2, s3, s4⟩
      · have hr : (cutD d f (scanN t (F f)).2).room = R := by rw [c2]; exact h.gro.room
        have hN : (cutD d f (scanN t (F f)).2).n = upd F f ((F f).take (scanN t (F f)).2) := by rw [c2]; show upd d.n f ((d.n f).take _) = _; rw [h.n]
        rw [hr, hN] at s3
        rw [e, e1]
        exact ⟨s1, s3, syncD_fused.trans hcf⟩
      · rw [hcf] at s4; cases s4
  · obtain ⟨e1, e⟩ := open_whole (t := t) (f := f) h.dark hw
    rw [e]
    refine ⟨e1, ?_, hfu⟩
    rw [hn] at hw
    rw [List.take_of_length_le (by omega)]
    have : upd F f (F f) = F := by funext i; unfold upd; split; · rename_i e; rw [e]
                                   · rfl
    rw [this]
    exact h.mono (by omega)
end
end Go.Proofs.Ytgjpeldgjpgbcaa
