/- The disk, plain: what holds of it behind any calls. -/
import Derived.Test.YtgjpeldgjpgbcaaDskF
namespace Go.Proofs.Ytgjpeldgjpgbcaa
set_option linter.unusedSimpArgs false
set_option linter.unusedVariables false
open Go.RowKit

abbrev Files := Nat → List UInt8
def tot (s : Files) : Nat := (s 0).length + (s 1).length + (s 2).length + (s 3).length
def stepF (w : DeedD) (n : Nat) (s : Files) : Files := if w.cut then upd s w.file ((s w.file).take w.size) else upd s w.file (s w.file ++ w.bytes.take n)
theorem stepL_fst (w : DeedD) (n : Nat) (s : LS) : (stepL w n s).1 = stepF w n s.1 := by unfold stepL stepF; split <;> rfl
def settleF : List DeedD → Int → Files → Files
  | [], _, s => s
  | w :: q, kp, s => if cntN w kp ≤ 0 then s else settleF q (kp - cntN w kp) (stepF w (cntN w kp).toNat s)
theorem settleL_fst : ∀ (q : List DeedD) (kp : Int) (s : LS), (settleL q kp s).1 = settleF q kp s.1
  | [], _, _ => rfl
  | w :: q, kp, s => by
    unfold settleL settleF
    split
    · rfl
    · rw [settleL_fst q, stepL_fst]
def allF : List DeedD → Files → Files
  | [], s => s
  | w :: q, s => allF q (stepF w w.count s)
def cntS : List DeedD → Nat
  | [] => 0
  | w :: q => w.count + cntS q
theorem allF_app (q : List DeedD) (w : DeedD) : ∀ s, allF (q ++ [w]) s = stepF w w.count (allF q s) := by
  induction q with
  | nil => intro s; rfl
  | cons x q ih => intro s; exact ih _
theorem cntS_app (q r : List DeedD) : cntS (q ++ r) = cntS q + cntS r := by
  induction q with
  | nil => simp [cntS]
  | cons x q ih => simp [cntS, ih]; omega
theorem qb_app (q r : List DeedD) : qb (q ++ r) = qb q + qb r := by
  induction q with
  | nil => simp [qb]
  | cons x q ih => simp [qb, ih]; omega
theorem cntS_le (q : List DeedD) : cntS q ≤ qb q + q.length := by
  induction q with
  | nil => simp [cntS]
  | cons x q ih =>
    have : x.count ≤ x.bytes.length + 1 := by unfold DeedD.count; split <;> omega
    simp [cntS, qb]; omega
def okR (room : Nat) : List DeedD → Files → Prop
  | [], s => tot s ≤ room
  | w :: q, s => tot s ≤ room ∧ w.file < 4 ∧ 0 < w.count ∧ (w.cut = true → w.size ≤ (s w.file).length) ∧ okR room q (stepF w w.count s)
theorem okR.tot {room : Nat} : ∀ {q : List DeedD} {s : Files}, okR room q s → Go.Proofs.Ytgjpeldgjpgbcaa.tot s ≤ room
  | [], _, h => h
  | _ :: _, _, h => h.1
theorem okR.all {room : Nat} : ∀ {q : List DeedD} {s : Files}, okR room q s → Go.Proofs.Ytgjpeldgjpgbcaa.tot (allF q s) ≤ room
  | [], _, h => h
  | _ :: q, _, h => okR.all (q := q) h.2.2.2.2
theorem okR.okq {room : Nat} : ∀ {q : List DeedD} {s : LS}, okR room q s.1 → Go.Proofs.Ytgjpeldgjpgbcaa.okq q s
  | [], _, _ => trivial
  | w :: q, s, h => ⟨h.2.1, h.2.2.2.1, okR.okq (by rw [stepL_fst]; exact h.2.2.2.2)⟩
theorem okR_app {room : Nat} {w : DeedD} : ∀ {q : List DeedD} {s : Files}, okR room q s → w.file < 4 → 0 < w.count → (w.cut = true → w.size ≤ (allF q s w.file).length) → Go.Proofs.Ytgjpeldgjpgbcaa.tot (stepF w w.count (allF q s)) ≤ room → okR room (q ++ [w]) s
  | [], s, h, h1, h2, h3, h4 => ⟨h, h1, h2, h3, h4⟩
  | x :: q, s, h, h1, h2, h3, h4 => ⟨h.1, h.2.1, h.2.2.1, h.2.2.2.1, okR_app (q := q) h.2.2.2.2 h1 h2 h3 h4⟩
theorem cntN_zero (w : DeedD) {kp : Int} (h : kp ≤ 0) : cntN w kp ≤ 0 := by unfold cntN; split <;> omega
theorem settleF_stop (q : List DeedD) (s : Files) {kp : Int} (h : kp ≤ 0) : settleF q kp s = s := by
  cases q with
  | nil => rfl
  | cons w q => unfold settleF; rw [if_pos (cntN_zero w h)]
theorem settleF_all {room : Nat} : ∀ {q : List DeedD} {s : Files} {kp : Int}, okR room q s → (cntS q : Int) ≤ kp → settleF q kp s = allF q s
  | [], _, _, _, _ => rfl
  | w :: q, s, kp, h, hk => by
    have hc : cntN w kp = w.count := by unfold cntN; rw [if_neg]; simp only [cntS] at hk; omega
    unfold settleF allF
    have := h.2.2.1
    rw [hc, if_neg (by omega), Int.toNat_natCast]
    exact settleF_all h.2.2.2.2 (by simp only [cntS] at hk; omega)
theorem tot_upd {s : Files} {i : Nat} (hi : i < 4) (x : List UInt8) : Go.Proofs.Ytgjpeldgjpgbcaa.tot (upd s i x) + (s i).length = Go.Proofs.Ytgjpeldgjpgbcaa.tot s + x.length := by
  unfold Go.Proofs.Ytgjpeldgjpgbcaa.tot upd
  rcases four hi with rfl | rfl | rfl | rfl <;> simp <;> omega
theorem settleF_tot {room : Nat} : ∀ {q : List DeedD} {s : Files} {kp : Int}, okR room q s → Go.Proofs.Ytgjpeldgjpgbcaa.tot (settleF q kp s) ≤ room
  | [], _, _, h => h
  | w :: q, s, kp, h => by
    unfold settleF
    split
    · exact h.1
    · rename_i h0
      rcases cntN_full (w := w) (kp := kp) (by omega) with e | e
      · rw [settleF_stop q _ e]
        have h5 := h.2.2.2.2.tot
        have h6 : Go.Proofs.Ytgjpeldgjpgbcaa.tot (stepF w (cntN w kp).toNat s) ≤ Go.Proofs.Ytgjpeldgjpgbcaa.tot (stepF w w.count s) := by
          unfold stepF
          split
          · exact Nat.le_refl _
          · rename_i hc
            have hcn : w.count = w.bytes.length := by unfold DeedD.count; rw [if_neg hc]
            have a := tot_upd (s := s) h.2.1 (s w.file ++ w.bytes.take (cntN w kp).toNat)
            have b := tot_upd (s := s) h.2.1 (s w.file ++ w.bytes.take w.count)
            simp only [List.length_append, List.length_take] at a b
            omega
        omega
      · rw [e]; exact settleF_tot h.2.2.2.2
theorem stepF_big {w : DeedD} (h : w.file < 4) {s : Files} (hs : ∀ i, 4 ≤ i → s i = []) (n : Nat) : ∀ i, 4 ≤ i → stepF w n s i = [] := by
  intro i hi
  unfold stepF upd
  split <;> (simp only; rw [if_neg (by omega)]; exact hs i hi)
theorem settleF_big {room : Nat} : ∀ {q : List DeedD} {s : Files} {kp : Int}, okR room q s → (∀ i, 4 ≤ i → s i = []) → ∀ i, 4 ≤ i → settleF q kp s i = []
  | [], _, _, _, hs => hs
  | w :: q, s, kp, h, hs => by
    unfold settleF
    split
    · exact hs
    · rename_i h0
      rcases cntN_full (w := w) (kp := kp) (by omega) with e | e
      · rw [settleF_stop q _ e]; exact stepF_big h.2.1 hs _
      · rw [e]; exact settleF_big h.2.2.2.2 (stepF_big h.2.1 hs _)
theorem len_le_tot {s : Files} (hs : ∀ i, 4 ≤ i → s i = []) (i : Nat) : (s i).length ≤ Go.Proofs.Ytgjpeldgjpgbcaa.tot s := by
  unfold Go.Proofs.Ytgjpeldgjpgbcaa.tot
  rcases Nat.lt_or_ge i 4 with h | h
  · rcases four h with rfl | rfl | rfl | rfl <;> omega
  · rw [hs i h]; simp
/-- What holds of a disk behind k calls. -/
structure DiskD.Ok (k : Nat) (d : DiskD) : Prop where
  room : 1 ≤ d.room ∧ d.room ≤ 200000
  fuse : 0 ≤ d.fuse ∧ d.fuse < 9223372036854775808
  now : d.n = allF d.q d.l
  okr : okR d.room.toNat d.q d.l
  w : d.waits = (cntS d.q : Nat)
  ql : d.q.length ≤ k
  qs : qb d.q + d.q.length ≤ 200001 * k
  big : ∀ i, 4 ≤ i → d.l i = []
section
variable {k : Nat} {d : DiskD}
theorem DiskD.Ok.nbig (h : d.Ok k) : ∀ i, 4 ≤ i → d.n i = [] := by
  rw [h.now, ← settleF_all h.okr (Int.le_refl _)]
  exact settleF_big h.okr h.big
theorem DiskD.Ok.ntot (h : d.Ok k) : Go.Proofs.Ytgjpeldgjpgbcaa.tot d.n ≤ d.room.toNat := by rw [h.now]; exact h.okr.all
theorem DiskD.Ok.nlen (h : d.Ok k) (i : Nat) : (d.n i).length ≤ 200000 := by
  have h1 := len_le_tot h.nbig i
  have h2 := h.ntot
  have := h.room
  omega
theorem DiskD.Ok.llen (h : d.Ok k) (i : Nat) : (d.l i).length ≤ 200000 := by
  have h1 := len_le_tot h.big i
  have h2 := h.okr.tot
  have := h.room
  omega
theorem DiskD.Ok.fit (h : d.Ok k) (hk : k ≤ 1000000) : d.Fit := by
  have h1 := h.qs
  have h2 := h.ql
  have h3 := cntS_le d.q
  refine ⟨by have := h.room; omega, h.fuse, fun i => by have := h.nlen i; omega, ?_, by omega⟩
  rw [h.w]; omega
theorem DiskD.Ok.okq (h : d.Ok k) : Go.Proofs.Ytgjpeldgjpgbcaa.okq d.q (d.l, d.lf) := okR.okq (s := (d.l, d.lf)) h.okr
theorem DiskD.Ok.lb (h : d.Ok k) (hk : k ≤ 1000000) (i : Nat) : (d.l i).length + qb d.q ≤ 1099511627776 := by
  have := h.llen i
  have := h.qs
  omega
theorem DiskD.Ok.mono {m : Nat} (h : d.Ok k) (hk : k ≤ m) : d.Ok m := ⟨h.room, h.fuse, h.now, h.okr, h.w, Nat.le_trans h.ql hk, by have := h.qs; omega, h.big⟩
theorem DiskD.Ok.sl (h : d.Ok k) (keep : Int) : (settleD d keep).l = settleF d.q keep d.l := settleL_fst d.q keep (d.l, d.lf)
theorem DiskD.Ok.slen (h : d.Ok k) (keep : Int) (i : Nat) : ((settleD d keep).l i).length ≤ 1099511627776 := by
  rw [h.sl]
  have h1 := len_le_tot (settleF_big (kp := keep) h.okr h.big) i
  have h2 := settleF_tot (kp := keep) h.okr
  have := h.room
  omega
theorem okNew {room : Int} (hr : 1 ≤ room ∧ room ≤ 200000) : (newD room).Ok 0 := ⟨hr, ⟨Int.le_refl _, by show (0 : Int) < _; omega⟩, rfl, by show Go.Proofs.Ytgjpeldgjpgbcaa.tot (fun _ => []) ≤ _; simp [Go.Proofs.Ytgjpeldgjpgbcaa.tot], rfl, Nat.le_refl _, Nat.le_refl _, fun _ _ => rfl⟩
theorem DiskD.Ok.fuseD (h : d.Ok k) (n : Int) (hn : n < 9223372036854775808) : (Go.Proofs.Ytgjpeldgjpgbcaa.fuseD d n).Ok k := ⟨h.room, by unfold Go.Proofs.Ytgjpeldgjpgbcaa.fuseD; simp only; split <;> omega, h.now, h.okr, h.w, h.ql, h.qs, h.big⟩
theorem DiskD.Ok.burn (h : d.Ok k) (n : Int) (hn : 0 ≤ n) : (burnD d n).Ok k := by
  have hf := h.fuse
  refine ⟨h.room, ?_, h.now, h.okr, h.w, h.ql, h.qs, h.big⟩
  unfold burnD burnN
  simp only
  cases d.fused with
  | true => simp only [if_true, true_and]; split <;> omega
  | false => simpa using hf
theorem burnN_le' (h : d.Ok k) {n : Int} (hn : 0 ≤ n) : 0 ≤ burnN d n ∧ burnN d n ≤ n := by
  have := h.fuse
  unfold burnN
  split <;> omega
theorem leftD_eq (d : DiskD) : leftD d = d.room - Go.Proofs.Ytgjpeldgjpgbcaa.tot d.n := by unfold leftD Go.Proofs.Ytgjpeldgjpgbcaa.tot; omega
theorem okPush (h : d.Ok k) {i : Nat} (hi : i < 4) {x : List UInt8} (hx : 0 < x.length) (hl : Go.Proofs.Ytgjpeldgjpgbcaa.tot d.n + x.length ≤ d.room.toNat) {n : Int} (hn : n = (x.length : Nat)) : (pushD d i x n).Ok (k + 1) := by
  have hc : (DeedD.mk i false 0 x).count = x.length := rfl
  have hb : ([DeedD.mk i false 0 x] : List DeedD).length = 1 := rfl
  have hs : stepF ⟨i, false, 0, x⟩ x.length d.n = upd d.n i (d.n i ++ x) := by simp [stepF]
  have hxl : x.length ≤ 200000 := by have := h.room; omega
  refine ⟨h.room, h.fuse, ?_, ?_, ?_, ?_, ?_, h.big⟩
  · show upd d.n i (d.n i ++ x) = allF (d.q ++ [⟨i, false, 0, x⟩]) d.l
    rw [allF_app, ← h.now, hc, hs]
  · show okR d.room.toNat (d.q ++ [⟨i, false, 0, x⟩]) d.l
    refine okR_app h.okr hi (by rw [hc]; exact hx) (fun e => by cases e) ?_
    rw [← h.now, hc, hs]
    have := tot_upd (s := d.n) hi (d.n i ++ x)
    simp only [List.length_append] at this
    show _ ≤ d.room.toNat
    omega
  · show d.waits + n = _
    rw [h.w, hn]
    show _ = ((cntS (d.q ++ [⟨i, false, 0, x⟩]) : Nat) : Int)
    rw [cntS_app]
    simp [cntS, hc]
  · show (d.q ++ [(⟨i, false, 0, x⟩ : DeedD)]).length ≤ _
    have := h.ql
    simp; omega
  · show qb (d.q ++ [⟨i, false, 0, x⟩]) + (d.q ++ [(⟨i, false, 0, x⟩ : DeedD)]).length ≤ _
    have := h.qs
    rw [qb_app]
    simp [qb]; omega
theorem DiskD.Ok.app (h : d.Ok k) (f : Int) (b : List UInt8) : (appDi d f b).Ok (k + 1) := by
  unfold appDi
  split
  · rename_i hf
    unfold appD
    split
    · exact h.mono (by omega)
    · split
      · exact h.mono (by omega)
      · rename_i hl
        have hb := burnN_le' h (n := b.length) (by omega)
        split
        · rename_i h0
          have hbl : (b.take (burnN d b.length).toNat).length = (burnN d b.length).toNat := by rw [List.length_take]; omega
          refine okPush (h.burn _ (by omega)) (by omega) (by omega) ?_ (by omega)
          rw [leftD_eq] at hl
          show Go.Proofs.Ytgjpeldgjpgbcaa.tot d.n + _ ≤ d.room.toNat
          omega
        · exact (h.burn _ (by omega)).mono (by omega)
  · exact h.mono (by omega)
theorem okCut1 (h : d.Ok k) {i n : Nat} (hi : i < 4) (hn : n ≤ (d.n i).length) : (cutD1 d i n).Ok (k + 1) := by
  have hc : (DeedD.mk i true n []).count = 1 := rfl
  have hs : ∀ m, stepF ⟨i, true, n, []⟩ m d.n = upd d.n i ((d.n i).take n) := fun m => by simp [stepF]
  refine ⟨h.room, h.fuse, ?_, ?_, ?_, ?_, ?_, h.big⟩
  · show upd d.n i ((d.n i).take n) = allF (d.q ++ [⟨i, true, n, []⟩]) d.l
    rw [allF_app, ← h.now, hs]
  · show okR d.room.toNat (d.q ++ [⟨i, true, n, []⟩]) d.l
    refine okR_app h.okr hi (by rw [hc]; omega) (fun _ => by rw [← h.now]; exact hn) ?_
    rw [← h.now, hs]
    have := tot_upd (s := d.n) hi ((d.n i).take n)
    have h2 := h.ntot
    simp only [List.length_take] at this
    show _ ≤ d.room.toNat
    omega
  · show d.waits + 1 = _
    rw [h.w]
    show _ = ((cntS (d.q ++ [⟨i, true, n, []⟩]) : Nat) : Int)
    rw [cntS_app]
    simp [cntS, hc]
  · show (d.q ++ [(⟨i, true, n, []⟩ : DeedD)]).length ≤ _
    have := h.ql
    simp; omega
  · show qb (d.q ++ [⟨i, true, n, []⟩]) + (d.q ++ [(⟨i, true, n, []⟩ : DeedD)]).length ≤ _
    have := h.qs
    rw [qb_app]
    simp [qb]; omega
theorem DiskD.Ok.cut (h : d.Ok k) (f n : Int) : (cutDi d f n).Ok (k + 1) := by
  unfold cutDi
  split
  · rename_i hf
    unfold cutD
    split
    · exact h.mono (by omega)
    · rename_i hn
      split
      · exact h.mono (by omega)
      · split
        · exact (h.burn _ (by omega)).mono (by omega)
        · refine okCut1 (h.burn _ (by omega)) (by omega) ?_
          show n.toNat ≤ (d.n f.toNat).length
          omega
  · exact h.mono (by omega)
theorem okSettle (h : d.Ok k) (keep : Int) : Go.Proofs.Ytgjpeldgjpgbcaa.tot (settleD d keep).l ≤ d.room.toNat ∧ ∀ i, 4 ≤ i → (settleD d keep).l i = [] := by
  rw [h.sl]
  exact ⟨settleF_tot h.okr, settleF_big h.okr h.big⟩
theorem settle_waits (h : d.Ok k) : (settleD d d.waits).l = d.n := by
  rw [h.sl, h.w, settleF_all h.okr (Int.le_refl _), h.now]
theorem DiskD.Ok.sync (h : d.Ok k) : (syncD d).Ok k := by
  unfold syncD
  split
  · exact h
  · have hb := h.burn 1 (by omega)
    split
    · exact hb
    · have e := settle_waits hb
      have e2 : (burnD d 1).waits = d.waits := rfl
      rw [e2] at e
      refine ⟨hb.room, hb.fuse, e.symm, ?_, rfl, by simp [settleD], by simp [settleD, qb], ?_⟩
      · show Go.Proofs.Ytgjpeldgjpgbcaa.tot (settleD (burnD d 1) d.waits).l ≤ _
        rw [e]; exact hb.ntot
      · rw [e]; exact hb.nbig
theorem DiskD.Ok.crash (h : d.Ok k) (keep : Int) : (crashD d keep).Ok k := by
  obtain ⟨h1, h2⟩ := okSettle h keep
  exact ⟨h.room, ⟨Int.le_refl _, by show (0 : Int) < _; omega⟩, rfl, h1, rfl, by simp [crashD, settleD], by simp [crashD, settleD, qb], h2⟩
end
section
variable {k : Nat} {d : DiskD} (h : d.Ok k) (hk : k ≤ 1000000) (G : Nat)
include h hk
theorem ok_append (f : Int) (b : List UInt8) (hb : b.length ≤ 1099511627776) : ACo Try.prog 19 [.bx 0 G 0, .sc (.int .i64 f), .sl (byA b)] [⟨G, .obj (DiskP d)⟩] (fun y os' => y = .sc (.int .i64 (appRi d f b)) ∧ os' = [⟨G, .obj (DiskP (appDi d f b))⟩]) := od_append d G f b (h.fit hk) hb
theorem ok_cut (f n : Int) : ACo Try.prog 26 [.bx 0 G 0, .sc (.int .i64 f), .sc (.int .i64 n)] [⟨G, .obj (DiskP d)⟩] (fun y os' => y = .sc (.int .i64 (cutRi d f n)) ∧ os' = [⟨G, .obj (DiskP (cutDi d f n))⟩]) := od_cut d G f n (h.fit hk)
theorem ok_read (f : Int) : ACo Try.prog 25 [.bx 0 G 0, .sc (.int .i64 f)] [⟨G, .obj (DiskP d)⟩] (fun y os' => y = readRi d f ∧ os' = [⟨G, .obj (DiskP d)⟩]) := od_read d G f (h.fit hk)
theorem ok_sync : ACo Try.prog 20 [.bx 0 G 0] [⟨G, .obj (DiskP d)⟩] (fun y os' => y = .sc (.int .i64 (syncR d)) ∧ os' = [⟨G, .obj (DiskP (syncD d))⟩]) := od_sync d G (h.fit hk) h.okq (h.lb hk)
theorem ok_crash (keep : Int) (hk' : -9223372036854775808 ≤ keep ∧ keep < 9223372036854775808) : ACo Try.prog 23 [.bx 0 G 0, .sc (.int .i64 keep)] [⟨G, .obj (DiskP d)⟩] (fun y os' => y = .tu [] ∧ os' = [⟨G, .obj (DiskP (crashD d keep))⟩]) := od_crash d G keep (h.fit hk).q hk' h.okq (h.lb hk) (h.slen keep)
theorem ok_left : ACo Try.prog 32 [.bx 0 G 0] [⟨G, .obj (DiskP d)⟩] (fun y os' => y = .sc (.int .i64 (leftD d)) ∧ os' = [⟨G, .obj (DiskP d)⟩]) := od_left d G (h.fit hk).room (h.fit hk).n
end
end Go.Proofs.Ytgjpeldgjpgbcaa
