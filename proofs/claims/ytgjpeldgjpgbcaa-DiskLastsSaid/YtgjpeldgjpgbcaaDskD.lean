/- The disk's function settle, over abstract states. -/
import Derived.Test.YtgjpeldgjpgbcaaDskC
namespace Go.Proofs.Ytgjpeldgjpgbcaa
set_option linter.unusedSimpArgs false
set_option linter.unusedVariables false
set_option maxRecDepth 100000
open Go.RowKit

def DeedD.count (w : DeedD) : Nat := if w.cut then 1 else w.bytes.length
theorem count_c (w : DeedD) : AC Try.prog 90 [.ag [.sc (.int .i64 (w.file : Int)), .sc (.bool w.cut), .sc (.int .i64 (w.size : Int)), .sl (byA w.bytes)]] (fun r => r = .s (.sc (.int .i64 (w.count : Int)))) := by
  refine AC.of (t0 := [.ag [.sc (.int .i64 (w.file : Int)), .sc (.bool w.cut), .sc (.int .i64 (w.size : Int)), .sl (byA w.bytes)], AV.sc undef, AV.sc undef, AV.sc undef, AV.sc undef, AV.sc undef, AV.sc undef, AV.sc undef]) 1 Try.func90 rfl rfl ?_
  change AW _ _ _ _ [TK.mk 0 .off]
  refine AW.seq ?_
  refine AW.region ?_
  refine AL.op rfl (AOpB.op (op_box 0 rfl rfl rfl rfl rfl ?_))
  refine AL.n ?_
  refine AL.r (rd_assign rfl rfl) ?_
  refine AL.nil ?_
  change AW _ _ _ _ _
  refine AW.seq ?_
  refine AW.seq ?_
  refine AW.region ?_
  refine AL.r (rd_faddr_bx rfl fo_102_1 rfl rfl ⟨_, _, rfl⟩) ?_
  refine AL.r (rd_load_bx rfl ag_4 rfl rfl rfl) ?_
  refine AL.nil ?_
  change AW _ _ _ _ _
  refine AW.cond rfl (fun h4 => ?_) (fun h4 => ?_)
  · (try simp only [decide_eq_true_eq, decide_eq_false_iff_not, beq_iff_eq, beq_eq_false_iff_ne, bne_iff_ne, bne_eq_false_iff_eq, Bool.not_eq_true', Bool.not_eq_false', ne_eq, Bool.not_eq_eq_eq_not, Bool.not_true, Bool.not_false, gt_iff_lt, ge_iff_le, Bool.not_not] at h4)
    refine AW.seq ?_
    refine AW.region ?_
    refine AL.r (rd_assign rfl rfl) ?_
    refine AL.nil ?_
    change AW _ _ _ _ _
    refine AW.ret ?_
    change ResA _ _ _ _ _
    refine res1 rfl (ResV.tmp rfl) rfl ?_
    simp [DeedD.count, h4, byA_len]
  · (try simp only [decide_eq_true_eq, decide_eq_false_iff_not, beq_iff_eq, beq_eq_false_iff_ne, bne_iff_ne, bne_eq_false_iff_eq, Bool.not_eq_true', Bool.not_eq_false', ne_eq, Bool.not_eq_eq_eq_not, Bool.not_true, Bool.not_false, gt_iff_lt, ge_iff_le, Bool.not_not] at h4)
    refine AW.skip ?_
    change AW _ _ _ _ _
    refine AW.seq ?_
    refine AW.region ?_
    refine AL.r (rd_faddr_bx rfl fo_102_3 rfl rfl ⟨_, _, rfl⟩) ?_
    refine AL.r (rd_load_bx rfl ag_29 rfl rfl rfl) ?_
    refine AL.r (rd_len_sl rfl el_29 rfl) ?_
    refine AL.r (rd_assign rfl rfl) ?_
    refine AL.nil ?_
    change AW _ _ _ _ _
    refine AW.ret ?_
    change ResA _ _ _ _ _
    refine res1 rfl (ResV.tmp rfl) rfl ?_
    simp [DeedD.count, h4, byA_len]
abbrev LS := (Nat → List UInt8) × (Nat → Bool)
def stepL (w : DeedD) (n : Nat) (s : LS) : LS := if w.cut then (upd s.1 w.file ((s.1 w.file).take w.size), upd s.2 w.file (s.2 w.file && (byA (s.1 w.file)).isEmpty)) else (upd s.1 w.file (s.1 w.file ++ w.bytes.take n), s.2)
def cntN (w : DeedD) (kp : Int) : Int := if kp < (w.count : Int) then kp else (w.count : Int)
def settleL : List DeedD → Int → LS → LS
  | [], _, s => s
  | w :: q, kp, s => if cntN w kp ≤ 0 then s else settleL q (kp - cntN w kp) (stepL w (cntN w kp).toNat s)
def okq : List DeedD → LS → Prop
  | [], _ => True
  | w :: q, s => w.file < 4 ∧ (w.cut = true → w.size ≤ (s.1 w.file).length) ∧ okq q (stepL w w.count s)
def qb : List DeedD → Nat
  | [] => 0
  | w :: q => w.bytes.length + qb q
def settleD (d : DiskD) (keep : Int) : DiskD := { d with l := (settleL d.q keep (d.l, d.lf)).1, lf := (settleL d.q keep (d.l, d.lf)).2, q := [], waits := 0 }
theorem drop_get {q : List DeedD} {j : Nat} (h : j < q.length) : q.drop j = q[j] :: q.drop (j + 1) := List.drop_eq_getElem_cons h
theorem cntN_full {w : DeedD} {kp : Int} (h : 0 < cntN w kp) : (kp - cntN w kp ≤ 0) ∨ (cntN w kp).toNat = w.count := by
  unfold cntN at *
  split <;> omega
structure SetJ (d : DiskD) (keep : Int) (j : Nat) (kp : Int) (s : LS) : Prop where
  jl : j ≤ d.q.length
  e : settleL d.q keep (d.l, d.lf) = settleL (d.q.drop j) kp s
  ok : kp ≤ 0 ∨ okq (d.q.drop j) s
  k : -9223372036854775808 ≤ kp ∧ kp < 9223372036854775808
  b : ∀ i, (s.1 i).length + qb (d.q.drop j) ≤ 1099511627776
theorem len_step {w : DeedD} {n : Nat} {s : LS} (i : Nat) : ((stepL w n s).1 i).length ≤ (s.1 i).length + w.bytes.length := by
  unfold stepL upd
  split
  · simp only
    split
    · rename_i e; rw [e]; simp; omega
    · omega
  · simp only
    split
    · rename_i e; rw [e]; simp; omega
    · omega
theorem SetJ.next {d : DiskD} {keep : Int} {j : Nat} {kp : Int} {s : LS} (h : SetJ d keep j kp s) (hj : j < d.q.length) (h0 : 0 < cntN d.q[j] kp) : SetJ d keep (j + 1) (kp - cntN d.q[j] kp) (stepL d.q[j] (cntN d.q[j] kp).toNat s) := by
  have hd := drop_get hj
  have hle : cntN d.q[j] kp ≤ kp := by unfold cntN; split <;> omega
  refine ⟨hj, ?_, ?_, ?_, fun i => ?_⟩
  · rw [h.e, hd, settleL, if_neg (by omega)]
  · rcases cntN_full h0 with e | e
    · exact .inl e
    · rcases h.ok with h1 | h1
      · exact .inl (by omega)
      · rw [hd] at h1; rw [e]; exact .inr h1.2.2
  · have := h.k; omega
  · have h1 := h.b i
    rw [hd] at h1
    have h2 := len_step (w := d.q[j]) (n := (cntN d.q[j] kp).toNat) (s := s) i
    simp only [qb] at h1
    omega
theorem SetJ.ok' {d : DiskD} {keep : Int} {j : Nat} {kp : Int} {s : LS} (h : SetJ d keep j kp s) (hj : j < d.q.length) (h0 : 0 < cntN d.q[j] kp) : d.q[j].file < 4 ∧ (d.q[j].cut = true → d.q[j].size ≤ (s.1 d.q[j].file).length) ∧ (s.1 d.q[j].file).length + d.q[j].bytes.length ≤ 1099511627776 ∧ (cntN d.q[j] kp).toNat ≤ d.q[j].count := by
  have hd := drop_get hj
  have hle : cntN d.q[j] kp ≤ kp ∧ cntN d.q[j] kp ≤ d.q[j].count := by unfold cntN; split <;> omega
  have h1 := h.b d.q[j].file
  rw [hd] at h1
  simp only [qb] at h1
  rcases h.ok with h2 | h2
  · omega
  · rw [hd] at h2
    exact ⟨h2.1, h2.2.1, by omega, by omega⟩
theorem SetJ.stop {d : DiskD} {keep : Int} {j : Nat} {kp : Int} {s : LS} (h : SetJ d keep j kp s) (hj : ¬ j < d.q.length) : True ∧ settleD d keep = { d with l := s.1, lf := s.2, q := [], waits := 0 } := by
  have h1 := h.e
  rw [List.drop_eq_nil_of_le (by omega), settleL] at h1
  exact ⟨trivial, by rw [settleD, h1]⟩
theorem SetJ.brk {d : DiskD} {keep : Int} {j : Nat} {kp : Int} {s : LS} (h : SetJ d keep j kp s) (hj : j < d.q.length) (h0 : cntN d.q[j] kp ≤ 0) : True ∧ settleD d keep = { d with l := s.1, lf := s.2, q := [], waits := 0 } := by
  have h1 := h.e
  rw [drop_get hj, settleL, if_pos h0] at h1
  exact ⟨trivial, by rw [settleD, h1]⟩
theorem four {i : Nat} (h : i < 4) : i = 0 ∨ i = 1 ∨ i = 2 ∨ i = 3 := by omega
section
variable (d : DiskD) (g g1 g2 g3 g4 g5 g6 g7 g8 g9 : Nat)
set_option maxHeartbeats 4000000 in
theorem settle_c (hq : d.q.length ≤ 1099511627776) (keep : Int) (hk : -9223372036854775808 ≤ keep ∧ keep < 9223372036854775808) (hok : okq d.q (d.l, d.lf)) (hb : ∀ i, (d.l i).length + qb d.q ≤ 1099511627776) : ACo Try.prog 71 [.bx 0 g 0, .sc (.int .i64 keep)] (diskT g g1 g2 g3 g4 g5 g6 g7 g8 g9 d)
    (fun y os' => y = .tu [] ∧ DiskAt g (settleD d keep) os') := by
  refine ACo.of (t0 := [.bx 0 g 0, .sc (.int .i64 keep), AV.sc undef, AV.sc undef, AV.sc undef, AV.sc undef, AV.sc undef, AV.sc undef, AV.sc undef, AV.sc undef, AV.sc undef, AV.sc undef, AV.sc undef, AV.sc undef, AV.sc undef, AV.sc undef, AV.sc undef, AV.sc undef, AV.sc undef, AV.sc undef, AV.sc undef, AV.sc undef, AV.sc undef, AV.sc undef, AV.sc undef, AV.sc undef, AV.sc undef, AV.sc undef, AV.sc undef, AV.sc undef, AV.sc undef, AV.sc undef, AV.sc undef, AV.sc undef, AV.sc undef, AV.sc undef, AV.sc undef, AV.sc undef, AV.sc undef, AV.sc undef, AV.sc undef, AV.sc undef, AV.sc undef, AV.sc undef, AV.sc undef, AV.sc undef, AV.sc undef, AV.sc undef, AV.sc undef, AV.sc undef, AV.sc undef, AV.sc undef, AV.sc undef, AV.sc undef, AV.sc undef, AV.sc undef, AV.sc undef, AV.sc undef, AV.sc undef, AV.sc undef, AV.sc undef, AV.sc undef, AV.sc undef, AV.sc undef, AV.sc undef, AV.sc undef, AV.sc undef, AV.sc undef]) (st0 := [⟨g, .box 99 [.sc (.int .i64 d.room), .ow 1 g1, .ow 2 g2, .ow 3 g3, .ow 4 g4, .ow 5 g5, .ow 6 g6, .ow 7 g7, .ow 8 g8, .ow 9 g9, .sc (.int .i64 d.waits), .sc (.int .i64 d.done), .sc (.bool d.fused), .sc (.int .i64 d.fuse), .sc (.bool d.dark)]⟩, ⟨g1, owM (d.nf 0) 5 1 (byA (d.n 0))⟩, ⟨g2, owM (d.nf 1) 5 1 (byA (d.n 1))⟩, ⟨g3, owM (d.nf 2) 5 1 (byA (d.n 2))⟩, ⟨g4, owM (d.nf 3) 5 1 (byA (d.n 3))⟩, ⟨g5, owM (d.lf 0) 5 1 (byA (d.l 0))⟩, ⟨g6, owM (d.lf 1) 5 1 (byA (d.l 1))⟩, ⟨g7, owM (d.lf 2) 5 1 (byA (d.l 2))⟩, ⟨g8, owM (d.lf 3) 5 1 (byA (d.l 3))⟩, ⟨g9, owM true 102 4 (d.q.map DeedD.cs)⟩, TK.mk 0 .off, TK.mk 0 .off]) 2 Try.func71 rfl rfl rfl 10 rfl ?_
  refine AW.seq ?_
  refine AW.seq ?_
  refine AW.region ?_
  refine AL.settlebx 0 9 rfl rfl rfl (by first | rfl | exact cont_owM _ _ _ _) ?_
  refine AL.no ?_
  refine AL.r (rd_move rfl rfl) ?_
  refine AL.r (rd_nilc_bx rfl rfl rfl) ?_
  refine AL.r (rd_faddr_bx rfl fo_99_3 rfl rfl ⟨_, _, rfl⟩) ?_
  refine AL.r (rd_load_bx rfl ag_97 rfl rfl rfl) ?_
  refine AL.r (rd_len_sl rfl el_97 rfl) ?_
  refine AL.r (rd_move rfl rfl) ?_
  refine AL.nil ?_
  change AW _ _ _ _ _
  refine AW.block ?_
  refine AW.loopM (ι := Nat × Int × LS × Nat × Nat × Nat × Nat) [5, 6, 13, 14, 15, 16, 17, 18, 19, 20, 21, 22, 23, 24, 25, 26, 27, 28, 29, 30, 31, 32, 33, 34, 35, 36, 37, 38, 39, 40, 41, 42, 43, 44, 45, 46, 47, 48, 49, 50, 51, 52, 53, 54, 55, 56, 57, 58, 59, 60, 61] (fun ⟨j, kp, s, a5, a6, a7, a8⟩ => [(12, .sc (.int .i64 (j : Int))), (1, .sc (.int .i64 kp))]) [10, 11] (fun ⟨j, kp, s, a5, a6, a7, a8⟩ => [(0, ⟨g, .box 99 [.sc (.int .i64 d.room), .ow 1 g1, .ow 2 g2, .ow 3 g3, .ow 4 g4, .ow 5 a5, .ow 6 a6, .ow 7 a7, .ow 8 a8, .sl (d.q.map DeedD.cs), .sc (.int .i64 d.waits), .sc (.int .i64 d.done), .sc (.bool d.fused), .sc (.int .i64 d.fuse), .sc (.bool d.dark)]⟩), (5, ⟨a5, owM (s.2 0) 5 1 (byA (s.1 0))⟩), (6, ⟨a6, owM (s.2 1) 5 1 (byA (s.1 1))⟩), (7, ⟨a7, owM (s.2 2) 5 1 (byA (s.1 2))⟩), (8, ⟨a8, owM (s.2 3) 5 1 (byA (s.1 3))⟩)]) (fun ⟨j, kp, s, a5, a6, a7, a8⟩ => SetJ d keep j kp s) (fun ⟨j, kp, s, a5, a6, a7, a8⟩ => d.q.length - j) (0, keep, (d.l, d.lf), g5, g6, g7, g8) (⟨Nat.zero_le _, rfl, .inr hok, hk, hb⟩) (by simp only [anys, upds, offs, List.set_cons_zero, List.set_cons_succ]; repeat (first | exact Wk.nil | refine Wk.same ?_ | refine Wk.any ?_)) (by simp only [anys, upds, offs, List.set_cons_zero, List.set_cons_succ]; repeat (first | exact Sk.nil _ | refine Sk.same _ ?_ | refine Sk.scr _ (by decide) ?_)) ?_
  rintro ⟨j, kp, s, a5, a6, a7, a8⟩ gs hJ
  refine AW.norm (by simp only [anys, upds, offs, List.set_cons_zero, List.set_cons_succ]; rfl) (by (try simp only [anys, upds, offs, List.set_cons_zero, List.set_cons_succ]); (try rfl)) ?_
  have hJj := hJ.jl
  have hJk := hJ.k
  refine AW.seq ?_
  refine AW.region ?_
  refine AL.r (rd_bin rfl rfl rfl (fun _ => rfl)) ?_
  refine AL.nil ?_
  change AW _ _ _ _ _
  refine AW.seq ?_
  refine AW.cond rfl (fun h13 => ?_) (fun h13 => ?_)
  · (try simp only [decide_eq_true_eq, decide_eq_false_iff_not, beq_iff_eq, beq_eq_false_iff_ne, bne_iff_ne, bne_eq_false_iff_eq, Bool.not_eq_true', Bool.not_eq_false', ne_eq, Bool.not_eq_eq_eq_not, Bool.not_true, Bool.not_false, gt_iff_lt, ge_iff_le, Bool.not_not] at h13)
    refine AW.skip ?_
    change AW _ _ _ _ _
    refine AW.seq ?_
    refine AW.block ?_
    refine AW.seq ?_
    refine AW.region ?_
    refine AL.r (rd_iaddr_sl rfl el_97 rfl rfl rfl (get_mapA (by omega)) rfl) ?_
    refine AL.r (rd_loadN_ep rfl ag_102 rfl (Nat.le_of_ble_eq_true rfl) rfl) ?_
    dsimp only [DeedD.cs]
    refine AL.op rfl (AOpB.op (op_alloc 10 rfl ze_102 rfl ?_))
    refine AL.no ?_
    refine AL.op rfl (op_store rfl rfl rfl rfl rfl rfl sz_102 (Nat.le_of_ble_eq_true rfl) ?_)
    refine AL.no ?_
    refine AL.nil ?_
    change AW _ _ _ _ _
    refine AW.seq ?_
    refine AW.region ?_
    refine AL.r (rd_loadN_bx rfl ag_102 rfl rfl (Nat.le_of_ble_eq_true rfl) rfl) ?_
    refine AL.op rfl (AOpB.op (op_call (count_c d.q[j]) rfl (by kernel_rfl) rfl (none) ?_))
    rintro r rfl
    refine AL.no ?_
    refine AL.r (rd_move rfl rfl) ?_
    refine AL.r (rd_min rfl rfl rfl (show _ = cntN d.q[j] kp from rfl)) ?_
    refine AL.r (rd_assign rfl rfl) ?_
    refine AL.nil ?_
    change AW _ _ _ _ _
    refine AW.seq ?_
    refine AW.seq ?_
    refine AW.region ?_
    refine AL.r (rd_move rfl rfl) ?_
    refine AL.r (rd_bin rfl rfl rfl (fun _ => rfl)) ?_
    refine AL.nil ?_
    change AW _ _ _ _ _
    refine AW.cond rfl (fun h21 => ?_) (fun h21 => ?_)
    · (try simp only [decide_eq_true_eq, decide_eq_false_iff_not, beq_iff_eq, beq_eq_false_iff_ne, bne_iff_ne, bne_eq_false_iff_eq, Bool.not_eq_true', Bool.not_eq_false', ne_eq, Bool.not_eq_eq_eq_not, Bool.not_true, Bool.not_false, gt_iff_lt, ge_iff_le, Bool.not_not] at h21)
      refine AW.exit ?_
      change AW _ _ _ _ _
      refine AW.seq ?_
      refine AW.region ?_
      refine AL.r (rd_move rfl rfl) ?_
      refine AL.r (rd_nilc_bx rfl rfl rfl) ?_
      refine AL.r (rd_faddr_bx rfl fo_99_3 rfl rfl ⟨_, _, rfl⟩) ?_
      refine AL.op rfl (op_store rfl rfl rfl rfl rfl rfl sz_97 (Nat.le_of_ble_eq_true rfl) ?_)
      refine AL.no ?_
      refine AL.nil ?_
      change AW _ _ _ _ _
      refine AW.region ?_
      refine AL.nilbx 0 9 9 102 4 rfl rfl rfl (by decide) ?_
      refine AL.no ?_
      refine AL.r (rd_move rfl rfl) ?_
      refine AL.r (rd_nilc_bx rfl rfl rfl) ?_
      refine AL.r (rd_faddr_bx rfl fo_99_4 rfl rfl ⟨_, _, rfl⟩) ?_
      refine AL.op rfl (op_store rfl rfl rfl rfl rfl rfl sz_3 (Nat.le_of_ble_eq_true rfl) ?_)
      refine AL.no ?_
      refine AL.nil ?_
      repeat with_reducible first | refine thenA_ret ?_ | refine inBlockA_ret ?_
      with_reducible first | refine retO_ret ?_ | refine retO_normal ?_
      refine reso0 rfl (Nat.le_of_ble_eq_true rfl) (by simp only [cleanS, cle_owM, cle_own, cle_nown, cle_obj, cle_off, cle_box, okC, liveA, List.take_succ_cons, List.take_zero, List.all_cons, List.all_nil, List.getElem?_cons_zero, List.getElem?_cons_succ, isO_owM, isO_own, isO_nown, TC.isB, beq_self_eq_true, Bool.and_self, Bool.and_true, ok1, ok2, List.map_cons, List.map_nil])   ?_
      first | (have e := hJ.stop (by omega); exact ⟨by first | rfl | (rw [e.1]; done) | (rw [e.1]; rfl), by rw [e.2]; exact ⟨_, _, _, _, _, _, _, _, _, by first | rfl | (simp only [diskT, pushD, cutD1, Int.toNat_natCast, List.map_append, List.map_cons, List.map_nil, DeedD.cs]; rfl)⟩⟩) | (have e := hJ.brk (by omega) h21; exact ⟨by first | rfl | (rw [e.1]; done) | (rw [e.1]; rfl), by rw [e.2]; exact ⟨_, _, _, _, _, _, _, _, _, by first | rfl | (simp only [diskT, pushD, cutD1, Int.toNat_natCast, List.map_append, List.map_cons, List.map_nil, DeedD.cs]; rfl)⟩⟩)
    · (try simp only [decide_eq_true_eq, decide_eq_false_iff_not, beq_iff_eq, beq_eq_false_iff_ne, bne_iff_ne, bne_eq_false_iff_eq, Bool.not_eq_true', Bool.not_eq_false', ne_eq, Bool.not_eq_eq_eq_not, Bool.not_true, Bool.not_false, gt_iff_lt, ge_iff_le, Bool.not_not] at h21)
      refine AW.skip ?_
      change AW _ _ _ _ _
      refine AW.seq ?_
      refine AW.region ?_
      have hjl : j < d.q.length := (by omega)
      have h0 : 0 < cntN d.q[j] kp := (by omega)
      obtain ⟨hf4, hsz, hbl, hcn⟩ := hJ.ok' hjl h0
      have hF := four hf4
      have hle : cntN d.q[j] kp ≤ kp := (by unfold cntN; split <;> omega)
      refine AL.r (rd_move rfl rfl) ?_
      refine AL.r (rd_move rfl rfl) ?_
      refine AL.r (rd_arith_sub rfl rfl rfl (by first | exact IntWalk.i64_in _ (by omega) | rfl)) ?_
      refine AL.r (rd_assign rfl rfl) ?_
      refine AL.nil ?_
      change AW _ _ _ _ _
      refine AW.seq ?_
      refine AW.region ?_
      refine AL.r (rd_faddr_bx rfl fo_102_1 rfl rfl ⟨_, _, rfl⟩) ?_
      refine AL.r (rd_load_bx rfl ag_4 rfl rfl rfl) ?_
      refine AL.nil ?_
      change AW _ _ _ _ _
      refine AW.cond rfl (fun h26 => ?_) (fun h26 => ?_)
      · (try simp only [decide_eq_true_eq, decide_eq_false_iff_not, beq_iff_eq, beq_eq_false_iff_ne, bne_iff_ne, bne_eq_false_iff_eq, Bool.not_eq_true', Bool.not_eq_false', ne_eq, Bool.not_eq_eq_eq_not, Bool.not_true, Bool.not_false, gt_iff_lt, ge_iff_le, Bool.not_not] at h26)
        rcases hF with hF | hF | hF | hF <;> rw [hF]
        · skip
          apply AW.drawS (by kernel_rfl)
          · skip
            refine ADA.r 0 rfl (ARdP.a (rdP_move rfl rfl)) rfl ?_
            refine ADA.r 1 rfl (ARdP.a (rdP_faddr_bx rfl fo_102_0 rfl rfl ⟨_, _, rfl⟩)) rfl ?_
            refine ADA.r 3 rfl (ARdP.a (rdP_move rfl rfl)) rfl ?_
            refine ADA.r 4 rfl (ARdP.a (rdP_faddr_bx rfl fo_102_0 rfl rfl ⟨_, _, rfl⟩)) rfl ?_
            refine ADA.r 6 rfl (ARdP.a (rdP_nilc_bx rfl rfl rfl)) rfl ?_
            refine ADA.r 7 rfl (ARdP.a (rdP_faddr_bx rfl fo_99_2 rfl rfl ⟨_, _, rfl⟩)) rfl ?_
            refine ADA.r 10 rfl (ARdP.a (rdP_faddr_bx rfl fo_102_2 rfl rfl ⟨_, _, rfl⟩)) rfl ?_
            refine ADA.r 13 rfl (ARdP.a (rdP_nilc_bx rfl rfl rfl)) rfl ?_
            refine ADA.r 14 rfl (ARdP.a (rdP_faddr_bx rfl fo_99_2 rfl rfl ⟨_, _, rfl⟩)) rfl ?_
            refine ADA.b ?_
            refine ADB.all (is := [2, 5, 11]) (by kernel_rfl) (by simp) ?_
            intro i hi
            simp only [List.mem_cons, List.not_mem_nil, or_false] at hi
            rcases hi with rfl | rfl | rfl
            · skip
              refine ⟨_, rfl, rfl, AOpB.op (ARd.opB (rd_load_bx rfl ag_3 rfl rfl rfl) ?_)⟩
              refine ADB.n ?_
              refine ADB.all (is := [5, 11]) (by kernel_rfl) (by simp) ?_
              intro i hi
              simp only [List.mem_cons, List.not_mem_nil, or_false] at hi
              rcases hi with rfl | rfl
              · skip
                refine ⟨_, rfl, rfl, AOpB.op (ARd.opB (rd_load_bx rfl ag_3 rfl rfl rfl) ?_)⟩
                refine ADB.n ?_
                refine ADB.r 8 rfl (rdP_iaddr_bx (i := 0) rfl ar_37 rfl rfl rfl (by first | rfl | omega) (by decide)) rfl ?_
                refine ADB.all (is := [9, 11]) (by kernel_rfl) (by simp) ?_
                intro i hi
                simp only [List.mem_cons, List.not_mem_nil, or_false] at hi
                rcases hi with rfl | rfl
                · skip
                  refine ⟨_, rfl, rfl, AOpB.op (ARd.opB (rd_load_bx rfl ag_29 rfl rfl rfl) ?_)⟩
                  refine ADB.n ?_
                  refine ADB.move 11 rfl (by kernel_rfl) rfl (AOpB.op (ARd.opB (rd_load_bx rfl ag_3 rfl rfl rfl) ?_))
                  refine ADB.n ?_
                  refine ADB.move 12 rfl (by kernel_rfl) rfl (AOpB.op (op_sliceM (n := d.q[j].size) rfl el_29 rfl rfl rfl rfl (by simp only [byA_len]; have := hsz h26; rw [hF] at this; exact this) ?_))
                  refine ADB.n ?_
                  refine ADB.r 15 rfl (rdP_iaddr_bx (i := 0) rfl ar_37 rfl rfl rfl (by first | rfl | omega) (by decide)) rfl ?_
                  refine ADB.move 16 rfl (by kernel_rfl) rfl (op_store rfl rfl rfl rfl rfl (by first | exact live_owM rfl | exact live_own rfl | exact live_nown rfl | rfl) sz_29 (Nat.le_of_ble_eq_true rfl) ?_)
                  refine ADB.n ?_
                  refine ADB.done (by kernel_rfl) ?_
                  exact ⟨rfl, rfl⟩
                · skip
                  refine ⟨_, rfl, rfl, AOpB.op (ARd.opB (rd_load_bx rfl ag_3 rfl rfl rfl) ?_)⟩
                  refine ADB.n ?_
                  refine ADB.move 9 rfl (by kernel_rfl) rfl (AOpB.op (ARd.opB (rd_load_bx rfl ag_29 rfl rfl rfl) ?_))
                  refine ADB.n ?_
                  refine ADB.move 12 rfl (by kernel_rfl) rfl (AOpB.op (op_sliceM (n := d.q[j].size) rfl el_29 rfl rfl rfl rfl (by simp only [byA_len]; have := hsz h26; rw [hF] at this; exact this) ?_))
                  refine ADB.n ?_
                  refine ADB.r 15 rfl (rdP_iaddr_bx (i := 0) rfl ar_37 rfl rfl rfl (by first | rfl | omega) (by decide)) rfl ?_
                  refine ADB.move 16 rfl (by kernel_rfl) rfl (op_store rfl rfl rfl rfl rfl (by first | exact live_owM rfl | exact live_own rfl | exact live_nown rfl | rfl) sz_29 (Nat.le_of_ble_eq_true rfl) ?_)
                  refine ADB.n ?_
                  refine ADB.done (by kernel_rfl) ?_
                  exact ⟨rfl, rfl⟩
              · skip
                refine ⟨_, rfl, rfl, AOpB.op (ARd.opB (rd_load_bx rfl ag_3 rfl rfl rfl) ?_)⟩
                refine ADB.n ?_
                refine ADB.move 5 rfl (by kernel_rfl) rfl (AOpB.op (ARd.opB (rd_load_bx rfl ag_3 rfl rfl rfl) ?_))
                refine ADB.n ?_
                refine ADB.r 8 rfl (rdP_iaddr_bx (i := 0) rfl ar_37 rfl rfl rfl (by first | rfl | omega) (by decide)) rfl ?_
                refine ADB.move 9 rfl (by kernel_rfl) rfl (AOpB.op (ARd.opB (rd_load_bx rfl ag_29 rfl rfl rfl) ?_))
                refine ADB.n ?_
                refine ADB.move 12 rfl (by kernel_rfl) rfl (AOpB.op (op_sliceM (n := d.q[j].size) rfl el_29 rfl rfl rfl rfl (by simp only [byA_len]; have := hsz h26; rw [hF] at this; exact this) ?_))
                refine ADB.n ?_
                refine ADB.r 15 rfl (rdP_iaddr_bx (i := 0) rfl ar_37 rfl rfl rfl (by first | rfl | omega) (by decide)) rfl ?_
                refine ADB.move 16 rfl (by kernel_rfl) rfl (op_store rfl rfl rfl rfl rfl (by first | exact live_owM rfl | exact live_own rfl | exact live_nown rfl | rfl) sz_29 (Nat.le_of_ble_eq_true rfl) ?_)
                refine ADB.n ?_
                refine ADB.done (by kernel_rfl) ?_
                exact ⟨rfl, rfl⟩
            · skip
              refine ⟨_, rfl, rfl, AOpB.op (ARd.opB (rd_load_bx rfl ag_3 rfl rfl rfl) ?_)⟩
              refine ADB.n ?_
              refine ADB.r 8 rfl (rdP_iaddr_bx (i := 0) rfl ar_37 rfl rfl rfl (by first | rfl | omega) (by decide)) rfl ?_
              refine ADB.all (is := [2, 9, 11]) (by kernel_rfl) (by simp) ?_
              intro i hi
              simp only [List.mem_cons, List.not_mem_nil, or_false] at hi
              rcases hi with rfl | rfl | rfl
              · skip
                refine ⟨_, rfl, rfl, AOpB.op (ARd.opB (rd_load_bx rfl ag_3 rfl rfl rfl) ?_)⟩
                refine ADB.n ?_
                refine ADB.all (is := [9, 11]) (by kernel_rfl) (by simp) ?_
                intro i hi
                simp only [List.mem_cons, List.not_mem_nil, or_false] at hi
                rcases hi with rfl | rfl
                · skip
                  refine ⟨_, rfl, rfl, AOpB.op (ARd.opB (rd_load_bx rfl ag_29 rfl rfl rfl) ?_)⟩
                  refine ADB.n ?_
                  refine ADB.move 11 rfl (by kernel_rfl) rfl (AOpB.op (ARd.opB (rd_load_bx rfl ag_3 rfl rfl rfl) ?_))
                  refine ADB.n ?_
                  refine ADB.move 12 rfl (by kernel_rfl) rfl (AOpB.op (op_sliceM (n := d.q[j].size) rfl el_29 rfl rfl rfl rfl (by simp only [byA_len]; have := hsz h26; rw [hF] at this; exact this) ?_))
                  refine ADB.n ?_
                  refine ADB.r 15 rfl (rdP_iaddr_bx (i := 0) rfl ar_37 rfl rfl rfl (by first | rfl | omega) (by decide)) rfl ?_
                  refine ADB.move 16 rfl (by kernel_rfl) rfl (op_store rfl rfl rfl rfl rfl (by first | exact live_owM rfl | exact live_own rfl | exact live_nown rfl | rfl) sz_29 (Nat.le_of_ble_eq_true rfl) ?_)
                  refine ADB.n ?_
                  refine ADB.done (by kernel_rfl) ?_
                  exact ⟨rfl, rfl⟩
                · skip
                  refine ⟨_, rfl, rfl, AOpB.op (ARd.opB (rd_load_bx rfl ag_3 rfl rfl rfl) ?_)⟩
                  refine ADB.n ?_
                  refine ADB.move 9 rfl (by kernel_rfl) rfl (AOpB.op (ARd.opB (rd_load_bx rfl ag_29 rfl rfl rfl) ?_))
                  refine ADB.n ?_
                  refine ADB.move 12 rfl (by kernel_rfl) rfl (AOpB.op (op_sliceM (n := d.q[j].size) rfl el_29 rfl rfl rfl rfl (by simp only [byA_len]; have := hsz h26; rw [hF] at this; exact this) ?_))
                  refine ADB.n ?_
                  refine ADB.r 15 rfl (rdP_iaddr_bx (i := 0) rfl ar_37 rfl rfl rfl (by first | rfl | omega) (by decide)) rfl ?_
                  refine ADB.move 16 rfl (by kernel_rfl) rfl (op_store rfl rfl rfl rfl rfl (by first | exact live_owM rfl | exact live_own rfl | exact live_nown rfl | rfl) sz_29 (Nat.le_of_ble_eq_true rfl) ?_)
                  refine ADB.n ?_
                  refine ADB.done (by kernel_rfl) ?_
                  exact ⟨rfl, rfl⟩
              · skip
                refine ⟨_, rfl, rfl, AOpB.op (ARd.opB (rd_load_bx rfl ag_29 rfl rfl rfl) ?_)⟩
                refine ADB.n ?_
                refine ADB.all (is := [2, 11]) (by kernel_rfl) (by simp) ?_
                intro i hi
                simp only [List.mem_cons, List.not_mem_nil, or_false] at hi
                rcases hi with rfl | rfl
                · skip
                  refine ⟨_, rfl, rfl, AOpB.op (ARd.opB (rd_load_bx rfl ag_3 rfl rfl rfl) ?_)⟩
                  refine ADB.n ?_
                  refine ADB.move 11 rfl (by kernel_rfl) rfl (AOpB.op (ARd.opB (rd_load_bx rfl ag_3 rfl rfl rfl) ?_))
                  refine ADB.n ?_
                  refine ADB.move 12 rfl (by kernel_rfl) rfl (AOpB.op (op_sliceM (n := d.q[j].size) rfl el_29 rfl rfl rfl rfl (by simp only [byA_len]; have := hsz h26; rw [hF] at this; exact this) ?_))
                  refine ADB.n ?_
                  refine ADB.r 15 rfl (rdP_iaddr_bx (i := 0) rfl ar_37 rfl rfl rfl (by first | rfl | omega) (by decide)) rfl ?_
                  refine ADB.move 16 rfl (by kernel_rfl) rfl (op_store rfl rfl rfl rfl rfl (by first | exact live_owM rfl | exact live_own rfl | exact live_nown rfl | rfl) sz_29 (Nat.le_of_ble_eq_true rfl) ?_)
                  refine ADB.n ?_
                  refine ADB.done (by kernel_rfl) ?_
                  exact ⟨rfl, rfl⟩
                · skip
                  refine ⟨_, rfl, rfl, AOpB.op (ARd.opB (rd_load_bx rfl ag_3 rfl rfl rfl) ?_)⟩
                  refine ADB.n ?_
                  refine ADB.all (is := [2, 12]) (by kernel_rfl) (by simp) ?_
                  intro i hi
                  simp only [List.mem_cons, List.not_mem_nil, or_false] at hi
                  rcases hi with rfl | rfl
                  · skip
                    refine ⟨_, rfl, rfl, AOpB.op (ARd.opB (rd_load_bx rfl ag_3 rfl rfl rfl) ?_)⟩
                    refine ADB.n ?_
                    refine ADB.move 12 rfl (by kernel_rfl) rfl (AOpB.op (op_sliceM (n := d.q[j].size) rfl el_29 rfl rfl rfl rfl (by simp only [byA_len]; have := hsz h26; rw [hF] at this; exact this) ?_))
                    refine ADB.n ?_
                    refine ADB.r 15 rfl (rdP_iaddr_bx (i := 0) rfl ar_37 rfl rfl rfl (by first | rfl | omega) (by decide)) rfl ?_
                    refine ADB.move 16 rfl (by kernel_rfl) rfl (op_store rfl rfl rfl rfl rfl (by first | exact live_owM rfl | exact live_own rfl | exact live_nown rfl | rfl) sz_29 (Nat.le_of_ble_eq_true rfl) ?_)
                    refine ADB.n ?_
                    refine ADB.done (by kernel_rfl) ?_
                    exact ⟨rfl, rfl⟩
                  · skip
                    refine ⟨_, rfl, rfl, AOpB.op (op_sliceM (n := d.q[j].size) rfl el_29 rfl rfl rfl rfl (by simp only [byA_len]; have := hsz h26; rw [hF] at this; exact this) ?_)⟩
                    refine ADB.n ?_
                    refine ADB.move 2 rfl (by kernel_rfl) rfl (AOpB.op (ARd.opB (rd_load_bx rfl ag_3 rfl rfl rfl) ?_))
                    refine ADB.n ?_
                    refine ADB.r 15 rfl (rdP_iaddr_bx (i := 0) rfl ar_37 rfl rfl rfl (by first | rfl | omega) (by decide)) rfl ?_
                    refine ADB.move 16 rfl (by kernel_rfl) rfl (op_store rfl rfl rfl rfl rfl (by first | exact live_owM rfl | exact live_own rfl | exact live_nown rfl | rfl) sz_29 (Nat.le_of_ble_eq_true rfl) ?_)
                    refine ADB.n ?_
                    refine ADB.done (by kernel_rfl) ?_
                    exact ⟨rfl, rfl⟩
              · skip
                refine ⟨_, rfl, rfl, AOpB.op (ARd.opB (rd_load_bx rfl ag_3 rfl rfl rfl) ?_)⟩
                refine ADB.n ?_
                refine ADB.all (is := [2, 9]) (by kernel_rfl) (by simp) ?_
                intro i hi
                simp only [List.mem_cons, List.not_mem_nil, or_false] at hi
                rcases hi with rfl | rfl
                · skip
                  refine ⟨_, rfl, rfl, AOpB.op (ARd.opB (rd_load_bx rfl ag_3 rfl rfl rfl) ?_)⟩
                  refine ADB.n ?_
                  refine ADB.move 9 rfl (by kernel_rfl) rfl (AOpB.op (ARd.opB (rd_load_bx rfl ag_29 rfl rfl rfl) ?_))
                  refine ADB.n ?_
                  refine ADB.move 12 rfl (by kernel_rfl) rfl (AOpB.op (op_sliceM (n := d.q[j].size) rfl el_29 rfl rfl rfl rfl (by simp only [byA_len]; have := hsz h26; rw [hF] at this; exact this) ?_))
                  refine ADB.n ?_
                  refine ADB.r 15 rfl (rdP_iaddr_bx (i := 0) rfl ar_37 rfl rfl rfl (by first | rfl | omega) (by decide)) rfl ?_
                  refine ADB.move 16 rfl (by kernel_rfl) rfl (op_store rfl rfl rfl rfl rfl (by first | exact live_owM rfl | exact live_own rfl | exact live_nown rfl | rfl) sz_29 (Nat.le_of_ble_eq_true rfl) ?_)
                  refine ADB.n ?_
                  refine ADB.done (by kernel_rfl) ?_
                  exact ⟨rfl, rfl⟩
                · skip
                  refine ⟨_, rfl, rfl, AOpB.op (ARd.opB (rd_load_bx rfl ag_29 rfl rfl rfl) ?_)⟩
                  refine ADB.n ?_
                  refine ADB.all (is := [2, 12]) (by kernel_rfl) (by simp) ?_
                  intro i hi
                  simp only [List.mem_cons, List.not_mem_nil, or_false] at hi
                  rcases hi with rfl | rfl
                  · skip
                    refine ⟨_, rfl, rfl, AOpB.op (ARd.opB (rd_load_bx rfl ag_3 rfl rfl rfl) ?_)⟩
                    refine ADB.n ?_
                    refine ADB.move 12 rfl (by kernel_rfl) rfl (AOpB.op (op_sliceM (n := d.q[j].size) rfl el_29 rfl rfl rfl rfl (by simp only [byA_len]; have := hsz h26; rw [hF] at this; exact this) ?_))
                    refine ADB.n ?_
                    refine ADB.r 15 rfl (rdP_iaddr_bx (i := 0) rfl ar_37 rfl rfl rfl (by first | rfl | omega) (by decide)) rfl ?_
                    refine ADB.move 16 rfl (by kernel_rfl) rfl (op_store rfl rfl rfl rfl rfl (by first | exact live_owM rfl | exact live_own rfl | exact live_nown rfl | rfl) sz_29 (Nat.le_of_ble_eq_true rfl) ?_)
                    refine ADB.n ?_
                    refine ADB.done (by kernel_rfl) ?_
                    exact ⟨rfl, rfl⟩
                  · skip
                    refine ⟨_, rfl, rfl, AOpB.op (op_sliceM (n := d.q[j].size) rfl el_29 rfl rfl rfl rfl (by simp only [byA_len]; have := hsz h26; rw [hF] at this; exact this) ?_)⟩
                    refine ADB.n ?_
                    refine ADB.move 2 rfl (by kernel_rfl) rfl (AOpB.op (ARd.opB (rd_load_bx rfl ag_3 rfl rfl rfl) ?_))
                    refine ADB.n ?_
                    refine ADB.r 15 rfl (rdP_iaddr_bx (i := 0) rfl ar_37 rfl rfl rfl (by first | rfl | omega) (by decide)) rfl ?_
                    refine ADB.move 16 rfl (by kernel_rfl) rfl (op_store rfl rfl rfl rfl rfl (by first | exact live_owM rfl | exact live_own rfl | exact live_nown rfl | rfl) sz_29 (Nat.le_of_ble_eq_true rfl) ?_)
                    refine ADB.n ?_
                    refine ADB.done (by kernel_rfl) ?_
                    exact ⟨rfl, rfl⟩
            · skip
              refine ⟨_, rfl, rfl, AOpB.op (ARd.opB (rd_load_bx rfl ag_3 rfl rfl rfl) ?_)⟩
              refine ADB.n ?_
              refine ADB.all (is := [2, 5]) (by kernel_rfl) (by simp) ?_
              intro i hi
              simp only [List.mem_cons, List.not_mem_nil, or_false] at hi
              rcases hi with rfl | rfl
              · skip
                refine ⟨_, rfl, rfl, AOpB.op (ARd.opB (rd_load_bx rfl ag_3 rfl rfl rfl) ?_)⟩
                refine ADB.n ?_
                refine ADB.move 5 rfl (by kernel_rfl) rfl (AOpB.op (ARd.opB (rd_load_bx rfl ag_3 rfl rfl rfl) ?_))
                refine ADB.n ?_
                refine ADB.r 8 rfl (rdP_iaddr_bx (i := 0) rfl ar_37 rfl rfl rfl (by first | rfl | omega) (by decide)) rfl ?_
                refine ADB.move 9 rfl (by kernel_rfl) rfl (AOpB.op (ARd.opB (rd_load_bx rfl ag_29 rfl rfl rfl) ?_))
                refine ADB.n ?_
                refine ADB.move 12 rfl (by kernel_rfl) rfl (AOpB.op (op_sliceM (n := d.q[j].size) rfl el_29 rfl rfl rfl rfl (by simp only [byA_len]; have := hsz h26; rw [hF] at this; exact this) ?_))
                refine ADB.n ?_
                refine ADB.r 15 rfl (rdP_iaddr_bx (i := 0) rfl ar_37 rfl rfl rfl (by first | rfl | omega) (by decide)) rfl ?_
                refine ADB.move 16 rfl (by kernel_rfl) rfl (op_store rfl rfl rfl rfl rfl (by first | exact live_owM rfl | exact live_own rfl | exact live_nown rfl | rfl) sz_29 (Nat.le_of_ble_eq_true rfl) ?_)
                refine ADB.n ?_
                refine ADB.done (by kernel_rfl) ?_
                exact ⟨rfl, rfl⟩
              · skip
                refine ⟨_, rfl, rfl, AOpB.op (ARd.opB (rd_load_bx rfl ag_3 rfl rfl rfl) ?_)⟩
                refine ADB.n ?_
                refine ADB.r 8 rfl (rdP_iaddr_bx (i := 0) rfl ar_37 rfl rfl rfl (by first | rfl | omega) (by decide)) rfl ?_
                refine ADB.all (is := [2, 9]) (by kernel_rfl) (by simp) ?_
                intro i hi
                simp only [List.mem_cons, List.not_mem_nil, or_false] at hi
                rcases hi with rfl | rfl
                · skip
                  refine ⟨_, rfl, rfl, AOpB.op (ARd.opB (rd_load_bx rfl ag_3 rfl rfl rfl) ?_)⟩
                  refine ADB.n ?_
                  refine ADB.move 9 rfl (by kernel_rfl) rfl (AOpB.op (ARd.opB (rd_load_bx rfl ag_29 rfl rfl rfl) ?_))
                  refine ADB.n ?_
                  refine ADB.move 12 rfl (by kernel_rfl) rfl (AOpB.op (op_sliceM (n := d.q[j].size) rfl el_29 rfl rfl rfl rfl (by simp only [byA_len]; have := hsz h26; rw [hF] at this; exact this) ?_))
                  refine ADB.n ?_
                  refine ADB.r 15 rfl (rdP_iaddr_bx (i := 0) rfl ar_37 rfl rfl rfl (by first | rfl | omega) (by decide)) rfl ?_
                  refine ADB.move 16 rfl (by kernel_rfl) rfl (op_store rfl rfl rfl rfl rfl (by first | exact live_owM rfl | exact live_own rfl | exact live_nown rfl | rfl) sz_29 (Nat.le_of_ble_eq_true rfl) ?_)
                  refine ADB.n ?_
                  refine ADB.done (by kernel_rfl) ?_
                  exact ⟨rfl, rfl⟩
                · skip
                  refine ⟨_, rfl, rfl, AOpB.op (ARd.opB (rd_load_bx rfl ag_29 rfl rfl rfl) ?_)⟩
                  refine ADB.n ?_
                  refine ADB.all (is := [2, 12]) (by kernel_rfl) (by simp) ?_
                  intro i hi
                  simp only [List.mem_cons, List.not_mem_nil, or_false] at hi
                  rcases hi with rfl | rfl
                  · skip
                    refine ⟨_, rfl, rfl, AOpB.op (ARd.opB (rd_load_bx rfl ag_3 rfl rfl rfl) ?_)⟩
                    refine ADB.n ?_
                    refine ADB.move 12 rfl (by kernel_rfl) rfl (AOpB.op (op_sliceM (n := d.q[j].size) rfl el_29 rfl rfl rfl rfl (by simp only [byA_len]; have := hsz h26; rw [hF] at this; exact this) ?_))
                    refine ADB.n ?_
                    refine ADB.r 15 rfl (rdP_iaddr_bx (i := 0) rfl ar_37 rfl rfl rfl (by first | rfl | omega) (by decide)) rfl ?_
                    refine ADB.move 16 rfl (by kernel_rfl) rfl (op_store rfl rfl rfl rfl rfl (by first | exact live_owM rfl | exact live_own rfl | exact live_nown rfl | rfl) sz_29 (Nat.le_of_ble_eq_true rfl) ?_)
                    refine ADB.n ?_
                    refine ADB.done (by kernel_rfl) ?_
                    exact ⟨rfl, rfl⟩
                  · skip
                    refine ⟨_, rfl, rfl, AOpB.op (op_sliceM (n := d.q[j].size) rfl el_29 rfl rfl rfl rfl (by simp only [byA_len]; have := hsz h26; rw [hF] at this; exact this) ?_)⟩
                    refine ADB.n ?_
                    refine ADB.move 2 rfl (by kernel_rfl) rfl (AOpB.op (ARd.opB (rd_load_bx rfl ag_3 rfl rfl rfl) ?_))
                    refine ADB.n ?_
                    refine ADB.r 15 rfl (rdP_iaddr_bx (i := 0) rfl ar_37 rfl rfl rfl (by first | rfl | omega) (by decide)) rfl ?_
                    refine ADB.move 16 rfl (by kernel_rfl) rfl (op_store rfl rfl rfl rfl rfl (by first | exact live_owM rfl | exact live_own rfl | exact live_nown rfl | rfl) sz_29 (Nat.le_of_ble_eq_true rfl) ?_)
                    refine ADB.n ?_
                    refine ADB.done (by kernel_rfl) ?_
                    exact ⟨rfl, rfl⟩
          skip
          change AW _ _ _ _ _
          refine AW.region ?_
          refine AL.r (rd_arith_add rfl rfl rfl (by first | exact IntWalk.i64_in _ (by omega) | rfl)) ?_
          refine AL.r (rd_move rfl rfl) ?_
          refine AL.nil ?_
          refine ⟨⟨j + 1, kp - cntN d.q[j] kp, stepL d.q[j] (cntN d.q[j] kp).toNat s, a5 + 1, a6, a7, a8⟩, ?_, by first | omega | (simp only []; omega), ?_, ?_⟩
          · exact hJ.next hjl h0
          · simp only [anys, upds, offs, List.set_cons_zero, List.set_cons_succ]; repeat (first | exact Wk.nil | refine Wk.same ?_ | refine Wk.any ?_)
          · simp only [anys, upds, offs, List.set_cons_zero, List.set_cons_succ]; repeat (first | exact Sk.nil _ | refine Sk.same _ ?_ | refine Sk.scr _ (by decide) ?_ | refine Sk.eq _ (by simp [stepL, upd, hF, h26]) ?_)
        · skip
          apply AW.drawS (by kernel_rfl)
          · skip
            refine ADA.r 0 rfl (ARdP.a (rdP_move rfl rfl)) rfl ?_
            refine ADA.r 1 rfl (ARdP.a (rdP_faddr_bx rfl fo_102_0 rfl rfl ⟨_, _, rfl⟩)) rfl ?_
            refine ADA.r 3 rfl (ARdP.a (rdP_move rfl rfl)) rfl ?_
            refine ADA.r 4 rfl (ARdP.a (rdP_faddr_bx rfl fo_102_0 rfl rfl ⟨_, _, rfl⟩)) rfl ?_
            refine ADA.r 6 rfl (ARdP.a (rdP_nilc_bx rfl rfl rfl)) rfl ?_
            refine ADA.r 7 rfl (ARdP.a (rdP_faddr_bx rfl fo_99_2 rfl rfl ⟨_, _, rfl⟩)) rfl ?_
            refine ADA.r 10 rfl (ARdP.a (rdP_faddr_bx rfl fo_102_2 rfl rfl ⟨_, _, rfl⟩)) rfl ?_
            refine ADA.r 13 rfl (ARdP.a (rdP_nilc_bx rfl rfl rfl)) rfl ?_
            refine ADA.r 14 rfl (ARdP.a (rdP_faddr_bx rfl fo_99_2 rfl rfl ⟨_, _, rfl⟩)) rfl ?_
            refine ADA.b ?_
            refine ADB.all (is := [2, 5, 11]) (by kernel_rfl) (by simp) ?_
            intro i hi
            simp only [List.mem_cons, List.not_mem_nil, or_false] at hi
            rcases hi with rfl | rfl | rfl
            · skip
              refine ⟨_, rfl, rfl, AOpB.op (ARd.opB (rd_load_bx rfl ag_3 rfl rfl rfl) ?_)⟩
              refine ADB.n ?_
              refine ADB.all (is := [5, 11]) (by kernel_rfl) (by simp) ?_
              intro i hi
              simp only [List.mem_cons, List.not_mem_nil, or_false] at hi
              rcases hi with rfl | rfl
              · skip
                refine ⟨_, rfl, rfl, AOpB.op (ARd.opB (rd_load_bx rfl ag_3 rfl rfl rfl) ?_)⟩
                refine ADB.n ?_
                refine ADB.r 8 rfl (rdP_iaddr_bx (i := 1) rfl ar_37 rfl rfl rfl (by first | rfl | omega) (by decide)) rfl ?_
                refine ADB.all (is := [9, 11]) (by kernel_rfl) (by simp) ?_
                intro i hi
                simp only [List.mem_cons, List.not_mem_nil, or_false] at hi
                rcases hi with rfl | rfl
                · skip
                  refine ⟨_, rfl, rfl, AOpB.op (ARd.opB (rd_load_bx rfl ag_29 rfl rfl rfl) ?_)⟩
                  refine ADB.n ?_
                  refine ADB.move 11 rfl (by kernel_rfl) rfl (AOpB.op (ARd.opB (rd_load_bx rfl ag_3 rfl rfl rfl) ?_))
                  refine ADB.n ?_
                  refine ADB.move 12 rfl (by kernel_rfl) rfl (AOpB.op (op_sliceM (n := d.q[j].size) rfl el_29 rfl rfl rfl rfl (by simp only [byA_len]; have := hsz h26; rw [hF] at this; exact this) ?_))
                  refine ADB.n ?_
                  refine ADB.r 15 rfl (rdP_iaddr_bx (i := 1) rfl ar_37 rfl rfl rfl (by first | rfl | omega) (by decide)) rfl ?_
                  refine ADB.move 16 rfl (by kernel_rfl) rfl (op_store rfl rfl rfl rfl rfl (by first | exact live_owM rfl | exact live_own rfl | exact live_nown rfl | rfl) sz_29 (Nat.le_of_ble_eq_true rfl) ?_)
                  refine ADB.n ?_
                  refine ADB.done (by kernel_rfl) ?_
                  exact ⟨rfl, rfl⟩
                · skip
                  refine ⟨_, rfl, rfl, AOpB.op (ARd.opB (rd_load_bx rfl ag_3 rfl rfl rfl) ?_)⟩
                  refine ADB.n ?_
                  refine ADB.move 9 rfl (by kernel_rfl) rfl (AOpB.op (ARd.opB (rd_load_bx rfl ag_29 rfl rfl rfl) ?_))
                  refine ADB.n ?_
                  refine ADB.move 12 rfl (by kernel_rfl) rfl (AOpB.op (op_sliceM (n := d.q[j].size) rfl el_29 rfl rfl rfl rfl (by simp only [byA_len]; have := hsz h26; rw [hF] at this; exact this) ?_))
                  refine ADB.n ?_
                  refine ADB.r 15 rfl (rdP_iaddr_bx (i := 1) rfl ar_37 rfl rfl rfl (by first | rfl | omega) (by decide)) rfl ?_
                  refine ADB.move 16 rfl (by kernel_rfl) rfl (op_store rfl rfl rfl rfl rfl (by first | exact live_owM rfl | exact live_own rfl | exact live_nown rfl | rfl) sz_29 (Nat.le_of_ble_eq_true rfl) ?_)
                  refine ADB.n ?_
                  refine ADB.done (by kernel_rfl) ?_
                  exact ⟨rfl, rfl⟩
              · skip
                refine ⟨_, rfl, rfl, AOpB.op (ARd.opB (rd_load_bx rfl ag_3 rfl rfl rfl) ?_)⟩
                refine ADB.n ?_
                refine ADB.move 5 rfl (by kernel_rfl) rfl (AOpB.op (ARd.opB (rd_load_bx rfl ag_3 rfl rfl rfl) ?_))
                refine ADB.n ?_
                refine ADB.r 8 rfl (rdP_iaddr_bx (i := 1) rfl ar_37 rfl rfl rfl (by first | rfl | omega) (by decide)) rfl ?_
                refine ADB.move 9 rfl (by kernel_rfl) rfl (AOpB.op (ARd.opB (rd_load_bx rfl ag_29 rfl rfl rfl) ?_))
                refine ADB.n ?_
                refine ADB.move 12 rfl (by kernel_rfl) rfl (AOpB.op (op_sliceM (n := d.q[j].size) rfl el_29 rfl rfl rfl rfl (by simp only [byA_len]; have := hsz h26; rw [hF] at this; exact this) ?_))
                refine ADB.n ?_
                refine ADB.r 15 rfl (rdP_iaddr_bx (i := 1) rfl ar_37 rfl rfl rfl (by first | rfl | omega) (by decide)) rfl ?_
                refine ADB.move 16 rfl (by kernel_rfl) rfl (op_store rfl rfl rfl rfl rfl (by first | exact live_owM rfl | exact live_own rfl | exact live_nown rfl | rfl) sz_29 (Nat.le_of_ble_eq_true rfl) ?_)
                refine ADB.n ?_
                refine ADB.done (by kernel_rfl) ?_
                exact ⟨rfl, rfl⟩
            · skip
              refine ⟨_, rfl, rfl, AOpB.op (ARd.opB (rd_load_bx rfl ag_3 rfl rfl rfl) ?_)⟩
              refine ADB.n ?_
              refine ADB.r 8 rfl (rdP_iaddr_bx (i := 1) rfl ar_37 rfl rfl rfl (by first | rfl | omega) (by decide)) rfl ?_
              refine ADB.all (is := [2, 9, 11]) (by kernel_rfl) (by simp) ?_
              intro i hi
              simp only [List.mem_cons, List.not_mem_nil, or_false] at hi
              rcases hi with rfl | rfl | rfl
              · skip
                refine ⟨_, rfl, rfl, AOpB.op (ARd.opB (rd_load_bx rfl ag_3 rfl rfl rfl) ?_)⟩
                refine ADB.n ?_
                refine ADB.all (is := [9, 11]) (by kernel_rfl) (by simp) ?_
                intro i hi
                simp only [List.mem_cons, List.not_mem_nil, or_false] at hi
                rcases hi with rfl | rfl
                · skip
                  refine ⟨_, rfl, rfl, AOpB.op (ARd.opB (rd_load_bx rfl ag_29 rfl rfl rfl) ?_)⟩
                  refine ADB.n ?_
                  refine ADB.move 11 rfl (by kernel_rfl) rfl (AOpB.op (ARd.opB (rd_load_bx rfl ag_3 rfl rfl rfl) ?_))
                  refine ADB.n ?_
                  refine ADB.move 12 rfl (by kernel_rfl) rfl (AOpB.op (op_sliceM (n := d.q[j].size) rfl el_29 rfl rfl rfl rfl (by simp only [byA_len]; have := hsz h26; rw [hF] at this; exact this) ?_))
                  refine ADB.n ?_
                  refine ADB.r 15 rfl (rdP_iaddr_bx (i := 1) rfl ar_37 rfl rfl rfl (by first | rfl | omega) (by decide)) rfl ?_
                  refine ADB.move 16 rfl (by kernel_rfl) rfl (op_store rfl rfl rfl rfl rfl (by first | exact live_owM rfl | exact live_own rfl | exact live_nown rfl | rfl) sz_29 (Nat.le_of_ble_eq_true rfl) ?_)
                  refine ADB.n ?_
                  refine ADB.done (by kernel_rfl) ?_
                  exact ⟨rfl, rfl⟩
                · skip
                  refine ⟨_, rfl, rfl, AOpB.op (ARd.opB (rd_load_bx rfl ag_3 rfl rfl rfl) ?_)⟩
                  refine ADB.n ?_
                  refine ADB.move 9 rfl (by kernel_rfl) rfl (AOpB.op (ARd.opB (rd_load_bx rfl ag_29 rfl rfl rfl) ?_))
                  refine ADB.n ?_
                  refine ADB.move 12 rfl (by kernel_rfl) rfl (AOpB.op (op_sliceM (n := d.q[j].size) rfl el_29 rfl rfl rfl rfl (by simp only [byA_len]; have := hsz h26; rw [hF] at this; exact this) ?_))
                  refine ADB.n ?_
                  refine ADB.r 15 rfl (rdP_iaddr_bx (i := 1) rfl ar_37 rfl rfl rfl (by first | rfl | omega) (by decide)) rfl ?_
                  refine ADB.move 16 rfl (by kernel_rfl) rfl (op_store rfl rfl rfl rfl rfl (by first | exact live_owM rfl | exact live_own rfl | exact live_nown rfl | rfl) sz_29 (Nat.le_of_ble_eq_true rfl) ?_)
                  refine ADB.n ?_
                  refine ADB.done (by kernel_rfl) ?_
                  exact ⟨rfl, rfl⟩
              · skip
                refine ⟨_, rfl, rfl, AOpB.op (ARd.opB (rd_load_bx rfl ag_29 rfl rfl rfl) ?_)⟩
                refine ADB.n ?_
                refine ADB.all (is := [2, 11]) (by kernel_rfl) (by simp) ?_
                intro i hi
                simp only [List.mem_cons, List.not_mem_nil, or_false] at hi
                rcases hi with rfl | rfl
                · skip
                  refine ⟨_, rfl, rfl, AOpB.op (ARd.opB (rd_load_bx rfl ag_3 rfl rfl rfl) ?_)⟩
                  refine ADB.n ?_
                  refine ADB.move 11 rfl (by kernel_rfl) rfl (AOpB.op (ARd.opB (rd_load_bx rfl ag_3 rfl rfl rfl) ?_))
                  refine ADB.n ?_
                  refine ADB.move 12 rfl (by kernel_rfl) rfl (AOpB.op (op_sliceM (n := d.q[j].size) rfl el_29 rfl rfl rfl rfl (by simp only [byA_len]; have := hsz h26; rw [hF] at this; exact this) ?_))
                  refine ADB.n ?_
                  refine ADB.r 15 rfl (rdP_iaddr_bx (i := 1) rfl ar_37 rfl rfl rfl (by first | rfl | omega) (by decide)) rfl ?_
                  refine ADB.move 16 rfl (by kernel_rfl) rfl (op_store rfl rfl rfl rfl rfl (by first | exact live_owM rfl | exact live_own rfl | exact live_nown rfl | rfl) sz_29 (Nat.le_of_ble_eq_true rfl) ?_)
                  refine ADB.n ?_
                  refine ADB.done (by kernel_rfl) ?_
                  exact ⟨rfl, rfl⟩
                · skip
                  refine ⟨_, rfl, rfl, AOpB.op (ARd.opB (rd_load_bx rfl ag_3 rfl rfl rfl) ?_)⟩
                  refine ADB.n ?_
                  refine ADB.all (is := [2, 12]) (by kernel_rfl) (by simp) ?_
                  intro i hi
                  simp only [List.mem_cons, List.not_mem_nil, or_false] at hi
                  rcases hi with rfl | rfl
                  · skip
                    refine ⟨_, rfl, rfl, AOpB.op (ARd.opB (rd_load_bx rfl ag_3 rfl rfl rfl) ?_)⟩
                    refine ADB.n ?_
                    refine ADB.move 12 rfl (by kernel_rfl) rfl (AOpB.op (op_sliceM (n := d.q[j].size) rfl el_29 rfl rfl rfl rfl (by simp only [byA_len]; have := hsz h26; rw [hF] at this; exact this) ?_))
                    refine ADB.n ?_
                    refine ADB.r 15 rfl (rdP_iaddr_bx (i := 1) rfl ar_37 rfl rfl rfl (by first | rfl | omega) (by decide)) rfl ?_
                    refine ADB.move 16 rfl (by kernel_rfl) rfl (op_store rfl rfl rfl rfl rfl (by first | exact live_owM rfl | exact live_own rfl | exact live_nown rfl | rfl) sz_29 (Nat.le_of_ble_eq_true rfl) ?_)
                    refine ADB.n ?_
                    refine ADB.done (by kernel_rfl) ?_
                    exact ⟨rfl, rfl⟩
                  · skip
                    refine ⟨_, rfl, rfl, AOpB.op (op_sliceM (n := d.q[j].size) rfl el_29 rfl rfl rfl rfl (by simp only [byA_len]; have := hsz h26; rw [hF] at this; exact this) ?_)⟩
                    refine ADB.n ?_
                    refine ADB.move 2 rfl (by kernel_rfl) rfl (AOpB.op (ARd.opB (rd_load_bx rfl ag_3 rfl rfl rfl) ?_))
                    refine ADB.n ?_
                    refine ADB.r 15 rfl (rdP_iaddr_bx (i := 1) rfl ar_37 rfl rfl rfl (by first | rfl | omega) (by decide)) rfl ?_
                    refine ADB.move 16 rfl (by kernel_rfl) rfl (op_store rfl rfl rfl rfl rfl (by first | exact live_owM rfl | exact live_own rfl | exact live_nown rfl | rfl) sz_29 (Nat.le_of_ble_eq_true rfl) ?_)
                    refine ADB.n ?_
                    refine ADB.done (by kernel_rfl) ?_
                    exact ⟨rfl, rfl⟩
              · skip
                refine ⟨_, rfl, rfl, AOpB.op (ARd.opB (rd_load_bx rfl ag_3 rfl rfl rfl) ?_)⟩
                refine ADB.n ?_
                refine ADB.all (is := [2, 9]) (by kernel_rfl) (by simp) ?_
                intro i hi
                simp only [List.mem_cons, List.not_mem_nil, or_false] at hi
                rcases hi with rfl | rfl
                · skip
                  refine ⟨_, rfl, rfl, AOpB.op (ARd.opB (rd_load_bx rfl ag_3 rfl rfl rfl) ?_)⟩
                  refine ADB.n ?_
                  refine ADB.move 9 rfl (by kernel_rfl) rfl (AOpB.op (ARd.opB (rd_load_bx rfl ag_29 rfl rfl rfl) ?_))
                  refine ADB.n ?_
                  refine ADB.move 12 rfl (by kernel_rfl) rfl (AOpB.op (op_sliceM (n := d.q[j].size) rfl el_29 rfl rfl rfl rfl (by simp only [byA_len]; have := hsz h26; rw [hF] at this; exact this) ?_))
                  refine ADB.n ?_
                  refine ADB.r 15 rfl (rdP_iaddr_bx (i := 1) rfl ar_37 rfl rfl rfl (by first | rfl | omega) (by decide)) rfl ?_
                  refine ADB.move 16 rfl (by kernel_rfl) rfl (op_store rfl rfl rfl rfl rfl (by first | exact live_owM rfl | exact live_own rfl | exact live_nown rfl | rfl) sz_29 (Nat.le_of_ble_eq_true rfl) ?_)
                  refine ADB.n ?_
                  refine ADB.done (by kernel_rfl) ?_
                  exact ⟨rfl, rfl⟩
                · skip
                  refine ⟨_, rfl, rfl, AOpB.op (ARd.opB (rd_load_bx rfl ag_29 rfl rfl rfl) ?_)⟩
                  refine ADB.n ?_
                  refine ADB.all (is := [2, 12]) (by kernel_rfl) (by simp) ?_
                  intro i hi
                  simp only [List.mem_cons, List.not_mem_nil, or_false] at hi
                  rcases hi with rfl | rfl
                  · skip
                    refine ⟨_, rfl, rfl, AOpB.op (ARd.opB (rd_load_bx rfl ag_3 rfl rfl rfl) ?_)⟩
                    refine ADB.n ?_
                    refine ADB.move 12 rfl (by kernel_rfl) rfl (AOpB.op (op_sliceM (n := d.q[j].size) rfl el_29 rfl rfl rfl rfl (by simp only [byA_len]; have := hsz h26; rw [hF] at this; exact this) ?_))
                    refine ADB.n ?_
                    refine ADB.r 15 rfl (rdP_iaddr_bx (i := 1) rfl ar_37 rfl rfl rfl (by first | rfl | omega) (by decide)) rfl ?_
                    refine ADB.move 16 rfl (by kernel_rfl) rfl (op_store rfl rfl rfl rfl rfl (by first | exact live_owM rfl | exact live_own rfl | exact live_nown rfl | rfl) sz_29 (Nat.le_of_ble_eq_true rfl) ?_)
                    refine ADB.n ?_
                    refine ADB.done (by kernel_rfl) ?_
                    exact ⟨rfl, rfl⟩
                  · skip
                    refine ⟨_, rfl, rfl, AOpB.op (op_sliceM (n := d.q[j].size) rfl el_29 rfl rfl rfl rfl (by simp only [byA_len]; have := hsz h26; rw [hF] at this; exact this) ?_)⟩
                    refine ADB.n ?_
                    refine ADB.move 2 rfl (by kernel_rfl) rfl (AOpB.op (ARd.opB (rd_load_bx rfl ag_3 rfl rfl rfl) ?_))
                    refine ADB.n ?_
                    refine ADB.r 15 rfl (rdP_iaddr_bx (i := 1) rfl ar_37 rfl rfl rfl (by first | rfl | omega) (by decide)) rfl ?_
                    refine ADB.move 16 rfl (by kernel_rfl) rfl (op_store rfl rfl rfl rfl rfl (by first | exact live_owM rfl | exact live_own rfl | exact live_nown rfl | rfl) sz_29 (Nat.le_of_ble_eq_true rfl) ?_)
                    refine ADB.n ?_
                    refine ADB.done (by kernel_rfl) ?_
                    exact ⟨rfl, rfl⟩
            · skip
              refine ⟨_, rfl, rfl, AOpB.op (ARd.opB (rd_load_bx rfl ag_3 rfl rfl rfl) ?_)⟩
              refine ADB.n ?_
              refine ADB.all (is := [2, 5]) (by kernel_rfl) (by simp) ?_
              intro i hi
              simp only [List.mem_cons, List.not_mem_nil, or_false] at hi
              rcases hi with rfl | rfl
              · skip
                refine ⟨_, rfl, rfl, AOpB.op (ARd.opB (rd_load_bx rfl ag_3 rfl rfl rfl) ?_)⟩
                refine ADB.n ?_
                refine ADB.move 5 rfl (by kernel_rfl) rfl (AOpB.op (ARd.opB (rd_load_bx rfl ag_3 rfl rfl rfl) ?_))
                refine ADB.n ?_
                refine ADB.r 8 rfl (rdP_iaddr_bx (i := 1) rfl ar_37 rfl rfl rfl (by first | rfl | omega) (by decide)) rfl ?_
                refine ADB.move 9 rfl (by kernel_rfl) rfl (AOpB.op (ARd.opB (rd_load_bx rfl ag_29 rfl rfl rfl) ?_))
                refine ADB.n ?_
                refine ADB.move 12 rfl (by kernel_rfl) rfl (AOpB.op (op_sliceM (n := d.q[j].size) rfl el_29 rfl rfl rfl rfl (by simp only [byA_len]; have := hsz h26; rw [hF] at this; exact this) ?_))
                refine ADB.n ?_
                refine ADB.r 15 rfl (rdP_iaddr_bx (i := 1) rfl ar_37 rfl rfl rfl (by first | rfl | omega) (by decide)) rfl ?_
                refine ADB.move 16 rfl (by kernel_rfl) rfl (op_store rfl rfl rfl rfl rfl (by first | exact live_owM rfl | exact live_own rfl | exact live_nown rfl | rfl) sz_29 (Nat.le_of_ble_eq_true rfl) ?_)
                refine ADB.n ?_
                refine ADB.done (by kernel_rfl) ?_
                exact ⟨rfl, rfl⟩
              · skip
                refine ⟨_, rfl, rfl, AOpB.op (ARd.opB (rd_load_bx rfl ag_3 rfl rfl rfl) ?_)⟩
                refine ADB.n ?_
                refine ADB.r 8 rfl (rdP_iaddr_bx (i := 1) rfl ar_37 rfl rfl rfl (by first | rfl | omega) (by decide)) rfl ?_
                refine ADB.all (is := [2, 9]) (by kernel_rfl) (by simp) ?_
                intro i hi
                simp only [List.mem_cons, List.not_mem_nil, or_false] at hi
                rcases hi with rfl | rfl
                · skip
                  refine ⟨_, rfl, rfl, AOpB.op (ARd.opB (rd_load_bx rfl ag_3 rfl rfl rfl) ?_)⟩
                  refine ADB.n ?_
                  refine ADB.move 9 rfl (by kernel_rfl) rfl (AOpB.op (ARd.opB (rd_load_bx rfl ag_29 rfl rfl rfl) ?_))
                  refine ADB.n ?_
                  refine ADB.move 12 rfl (by kernel_rfl) rfl (AOpB.op (op_sliceM (n := d.q[j].size) rfl el_29 rfl rfl rfl rfl (by simp only [byA_len]; have := hsz h26; rw [hF] at this; exact this) ?_))
                  refine ADB.n ?_
                  refine ADB.r 15 rfl (rdP_iaddr_bx (i := 1) rfl ar_37 rfl rfl rfl (by first | rfl | omega) (by decide)) rfl ?_
                  refine ADB.move 16 rfl (by kernel_rfl) rfl (op_store rfl rfl rfl rfl rfl (by first | exact live_owM rfl | exact live_own rfl | exact live_nown rfl | rfl) sz_29 (Nat.le_of_ble_eq_true rfl) ?_)
                  refine ADB.n ?_
                  refine ADB.done (by kernel_rfl) ?_
                  exact ⟨rfl, rfl⟩
                · skip
                  refine ⟨_, rfl, rfl, AOpB.op (ARd.opB (rd_load_bx rfl ag_29 rfl rfl rfl) ?_)⟩
                  refine ADB.n ?_
                  refine ADB.all (is := [2, 12]) (by kernel_rfl) (by simp) ?_
                  intro i hi
                  simp only [List.mem_cons, List.not_mem_nil, or_false] at hi
                  rcases hi with rfl | rfl
                  · skip
                    refine ⟨_, rfl, rfl, AOpB.op (ARd.opB (rd_load_bx rfl ag_3 rfl rfl rfl) ?_)⟩
                    refine ADB.n ?_
                    refine ADB.move 12 rfl (by kernel_rfl) rfl (AOpB.op (op_sliceM (n := d.q[j].size) rfl el_29 rfl rfl rfl rfl (by simp only [byA_len]; have := hsz h26; rw [hF] at this; exact this) ?_))
                    refine ADB.n ?_
                    refine ADB.r 15 rfl (rdP_iaddr_bx (i := 1) rfl ar_37 rfl rfl rfl (by first | rfl | omega) (by decide)) rfl ?_
                    refine ADB.move 16 rfl (by kernel_rfl) rfl (op_store rfl rfl rfl rfl rfl (by first | exact live_owM rfl | exact live_own rfl | exact live_nown rfl | rfl) sz_29 (Nat.le_of_ble_eq_true rfl) ?_)
                    refine ADB.n ?_
                    refine ADB.done (by kernel_rfl) ?_
                    exact ⟨rfl, rfl⟩
                  · skip
                    refine ⟨_, rfl, rfl, AOpB.op (op_sliceM (n := d.q[j].size) rfl el_29 rfl rfl rfl rfl (by simp only [byA_len]; have := hsz h26; rw [hF] at this; exact this) ?_)⟩
                    refine ADB.n ?_
                    refine ADB.move 2 rfl (by kernel_rfl) rfl (AOpB.op (ARd.opB (rd_load_bx rfl ag_3 rfl rfl rfl) ?_))
                    refine ADB.n ?_
                    refine ADB.r 15 rfl (rdP_iaddr_bx (i := 1) rfl ar_37 rfl rfl rfl (by first | rfl | omega) (by decide)) rfl ?_
                    refine ADB.move 16 rfl (by kernel_rfl) rfl (op_store rfl rfl rfl rfl rfl (by first | exact live_owM rfl | exact live_own rfl | exact live_nown rfl | rfl) sz_29 (Nat.le_of_ble_eq_true rfl) ?_)
                    refine ADB.n ?_
                    refine ADB.done (by kernel_rfl) ?_
                    exact ⟨rfl, rfl⟩
          skip
          change AW _ _ _ _ _
          refine AW.region ?_
          refine AL.r (rd_arith_add rfl rfl rfl (by first | exact IntWalk.i64_in _ (by omega) | rfl)) ?_
          refine AL.r (rd_move rfl rfl) ?_
          refine AL.nil ?_
          refine ⟨⟨j + 1, kp - cntN d.q[j] kp, stepL d.q[j] (cntN d.q[j] kp).toNat s, a5, a6 + 1, a7, a8⟩, ?_, by first | omega | (simp only []; omega), ?_, ?_⟩
          · exact hJ.next hjl h0
          · simp only [anys, upds, offs, List.set_cons_zero, List.set_cons_succ]; repeat (first | exact Wk.nil | refine Wk.same ?_ | refine Wk.any ?_)
          · simp only [anys, upds, offs, List.set_cons_zero, List.set_cons_succ]; repeat (first | exact Sk.nil _ | refine Sk.same _ ?_ | refine Sk.scr _ (by decide) ?_ | refine Sk.eq _ (by simp [stepL, upd, hF, h26]) ?_)
        · skip
          apply AW.drawS (by kernel_rfl)
          · skip
            refine ADA.r 0 rfl (ARdP.a (rdP_move rfl rfl)) rfl ?_
            refine ADA.r 1 rfl (ARdP.a (rdP_faddr_bx rfl fo_102_0 rfl rfl ⟨_, _, rfl⟩)) rfl ?_
            refine ADA.r 3 rfl (ARdP.a (rdP_move rfl rfl)) rfl ?_
            refine ADA.r 4 rfl (ARdP.a (rdP_faddr_bx rfl fo_102_0 rfl rfl ⟨_, _, rfl⟩)) rfl ?_
            refine ADA.r 6 rfl (ARdP.a (rdP_nilc_bx rfl rfl rfl)) rfl ?_
            refine ADA.r 7 rfl (ARdP.a (rdP_faddr_bx rfl fo_99_2 rfl rfl ⟨_, _, rfl⟩)) rfl ?_
            refine ADA.r 10 rfl (ARdP.a (rdP_faddr_bx rfl fo_102_2 rfl rfl ⟨_, _, rfl⟩)) rfl ?_
            refine ADA.r 13 rfl (ARdP.a (rdP_nilc_bx rfl rfl rfl)) rfl ?_
            refine ADA.r 14 rfl (ARdP.a (rdP_faddr_bx rfl fo_99_2 rfl rfl ⟨_, _, rfl⟩)) rfl ?_
            refine ADA.b ?_
            refine ADB.all (is := [2, 5, 11]) (by kernel_rfl) (by simp) ?_
            intro i hi
            simp only [List.mem_cons, List.not_mem_nil, or_false] at hi
            rcases hi with rfl | rfl | rfl
            · skip
              refine ⟨_, rfl, rfl, AOpB.op (ARd.opB (rd_load_bx rfl ag_3 rfl rfl rfl) ?_)⟩
              refine ADB.n ?_
              refine ADB.all (is := [5, 11]) (by kernel_rfl) (by simp) ?_
              intro i hi
              simp only [List.mem_cons, List.not_mem_nil, or_false] at hi
              rcases hi with rfl | rfl
              · skip
                refine ⟨_, rfl, rfl, AOpB.op (ARd.opB (rd_load_bx rfl ag_3 rfl rfl rfl) ?_)⟩
                refine ADB.n ?_
                refine ADB.r 8 rfl (rdP_iaddr_bx (i := 2) rfl ar_37 rfl rfl rfl (by first | rfl | omega) (by decide)) rfl ?_
                refine ADB.all (is := [9, 11]) (by kernel_rfl) (by simp) ?_
                intro i hi
                simp only [List.mem_cons, List.not_mem_nil, or_false] at hi
                rcases hi with rfl | rfl
                · skip
                  refine ⟨_, rfl, rfl, AOpB.op (ARd.opB (rd_load_bx rfl ag_29 rfl rfl rfl) ?_)⟩
                  refine ADB.n ?_
                  refine ADB.move 11 rfl (by kernel_rfl) rfl (AOpB.op (ARd.opB (rd_load_bx rfl ag_3 rfl rfl rfl) ?_))
                  refine ADB.n ?_
                  refine ADB.move 12 rfl (by kernel_rfl) rfl (AOpB.op (op_sliceM (n := d.q[j].size) rfl el_29 rfl rfl rfl rfl (by simp only [byA_len]; have := hsz h26; rw [hF] at this; exact this) ?_))
                  refine ADB.n ?_
                  refine ADB.r 15 rfl (rdP_iaddr_bx (i := 2) rfl ar_37 rfl rfl rfl (by first | rfl | omega) (by decide)) rfl ?_
                  refine ADB.move 16 rfl (by kernel_rfl) rfl (op_store rfl rfl rfl rfl rfl (by first | exact live_owM rfl | exact live_own rfl | exact live_nown rfl | rfl) sz_29 (Nat.le_of_ble_eq_true rfl) ?_)
                  refine ADB.n ?_
                  refine ADB.done (by kernel_rfl) ?_
                  exact ⟨rfl, rfl⟩
                · skip
                  refine ⟨_, rfl, rfl, AOpB.op (ARd.opB (rd_load_bx rfl ag_3 rfl rfl rfl) ?_)⟩
                  refine ADB.n ?_
                  refine ADB.move 9 rfl (by kernel_rfl) rfl (AOpB.op (ARd.opB (rd_load_bx rfl ag_29 rfl rfl rfl) ?_))
                  refine ADB.n ?_
                  refine ADB.move 12 rfl (by kernel_rfl) rfl (AOpB.op (op_sliceM (n := d.q[j].size) rfl el_29 rfl rfl rfl rfl (by simp only [byA_len]; have := hsz h26; rw [hF] at this; exact this) ?_))
                  refine ADB.n ?_
                  refine ADB.r 15 rfl (rdP_iaddr_bx (i := 2) rfl ar_37 rfl rfl rfl (by first | rfl | omega) (by decide)) rfl ?_
                  refine ADB.move 16 rfl (by kernel_rfl) rfl (op_store rfl rfl rfl rfl rfl (by first | exact live_owM rfl | exact live_own rfl | exact live_nown rfl | rfl) sz_29 (Nat.le_of_ble_eq_true rfl) ?_)
                  refine ADB.n ?_
                  refine ADB.done (by kernel_rfl) ?_
                  exact ⟨rfl, rfl⟩
              · skip
                refine ⟨_, rfl, rfl, AOpB.op (ARd.opB (rd_load_bx rfl ag_3 rfl rfl rfl) ?_)⟩
                refine ADB.n ?_
                refine ADB.move 5 rfl (by kernel_rfl) rfl (AOpB.op (ARd.opB (rd_load_bx rfl ag_3 rfl rfl rfl) ?_))
                refine ADB.n ?_
                refine ADB.r 8 rfl (rdP_iaddr_bx (i := 2) rfl ar_37 rfl rfl rfl (by first | rfl | omega) (by decide)) rfl ?_
                refine ADB.move 9 rfl (by kernel_rfl) rfl (AOpB.op (ARd.opB (rd_load_bx rfl ag_29 rfl rfl rfl) ?_))
                refine ADB.n ?_
                refine ADB.move 12 rfl (by kernel_rfl) rfl (AOpB.op (op_sliceM (n := d.q[j].size) rfl el_29 rfl rfl rfl rfl (by simp only [byA_len]; have := hsz h26; rw [hF] at this; exact this) ?_))
                refine ADB.n ?_
                refine ADB.r 15 rfl (rdP_iaddr_bx (i := 2) rfl ar_37 rfl rfl rfl (by first | rfl | omega) (by decide)) rfl ?_
                refine ADB.move 16 rfl (by kernel_rfl) rfl (op_store rfl rfl rfl rfl rfl (by first | exact live_owM rfl | exact live_own rfl | exact live_nown rfl | rfl) sz_29 (Nat.le_of_ble_eq_true rfl) ?_)
                refine ADB.n ?_
                refine ADB.done (by kernel_rfl) ?_
                exact ⟨rfl, rfl⟩
            · skip
              refine ⟨_, rfl, rfl, AOpB.op (ARd.opB (rd_load_bx rfl ag_3 rfl rfl rfl) ?_)⟩
              refine ADB.n ?_
              refine ADB.r 8 rfl (rdP_iaddr_bx (i := 2) rfl ar_37 rfl rfl rfl (by first | rfl | omega) (by decide)) rfl ?_
              refine ADB.all (is := [2, 9, 11]) (by kernel_rfl) (by simp) ?_
              intro i hi
              simp only [List.mem_cons, List.not_mem_nil, or_false] at hi
              rcases hi with rfl | rfl | rfl
              · skip
                refine ⟨_, rfl, rfl, AOpB.op (ARd.opB (rd_load_bx rfl ag_3 rfl rfl rfl) ?_)⟩
                refine ADB.n ?_
                refine ADB.all (is := [9, 11]) (by kernel_rfl) (by simp) ?_
                intro i hi
                simp only [List.mem_cons, List.not_mem_nil, or_false] at hi
                rcases hi with rfl | rfl
                · skip
                  refine ⟨_, rfl, rfl, AOpB.op (ARd.opB (rd_load_bx rfl ag_29 rfl rfl rfl) ?_)⟩
                  refine ADB.n ?_
                  refine ADB.move 11 rfl (by kernel_rfl) rfl (AOpB.op (ARd.opB (rd_load_bx rfl ag_3 rfl rfl rfl) ?_))
                  refine ADB.n ?_
                  refine ADB.move 12 rfl (by kernel_rfl) rfl (AOpB.op (op_sliceM (n := d.q[j].size) rfl el_29 rfl rfl rfl rfl (by simp only [byA_len]; have := hsz h26; rw [hF] at this; exact this) ?_))
                  refine ADB.n ?_
                  refine ADB.r 15 rfl (rdP_iaddr_bx (i := 2) rfl ar_37 rfl rfl rfl (by first | rfl | omega) (by decide)) rfl ?_
                  refine ADB.move 16 rfl (by kernel_rfl) rfl (op_store rfl rfl rfl rfl rfl (by first | exact live_owM rfl | exact live_own rfl | exact live_nown rfl | rfl) sz_29 (Nat.le_of_ble_eq_true rfl) ?_)
                  refine ADB.n ?_
                  refine ADB.done (by kernel_rfl) ?_
                  exact ⟨rfl, rfl⟩
                · skip
                  refine ⟨_, rfl, rfl, AOpB.op (ARd.opB (rd_load_bx rfl ag_3 rfl rfl rfl) ?_)⟩
                  refine ADB.n ?_
                  refine ADB.move 9 rfl (by kernel_rfl) rfl (AOpB.op (ARd.opB (rd_load_bx rfl ag_29 rfl rfl rfl) ?_))
                  refine ADB.n ?_
                  refine ADB.move 12 rfl (by kernel_rfl) rfl (AOpB.op (op_sliceM (n := d.q[j].size) rfl el_29 rfl rfl rfl rfl (by simp only [byA_len]; have := hsz h26; rw [hF] at this; exact this) ?_))
                  refine ADB.n ?_
                  refine ADB.r 15 rfl (rdP_iaddr_bx (i := 2) rfl ar_37 rfl rfl rfl (by first | rfl | omega) (by decide)) rfl ?_
                  refine ADB.move 16 rfl (by kernel_rfl) rfl (op_store rfl rfl rfl rfl rfl (by first | exact live_owM rfl | exact live_own rfl | exact live_nown rfl | rfl) sz_29 (Nat.le_of_ble_eq_true rfl) ?_)
                  refine ADB.n ?_
                  refine ADB.done (by kernel_rfl) ?_
                  exact ⟨rfl, rfl⟩
              · skip
                refine ⟨_, rfl, rfl, AOpB.op (ARd.opB (rd_load_bx rfl ag_29 rfl rfl rfl) ?_)⟩
                refine ADB.n ?_
                refine ADB.all (is := [2, 11]) (by kernel_rfl) (by simp) ?_
                intro i hi
                simp only [List.mem_cons, List.not_mem_nil, or_false] at hi
                rcases hi with rfl | rfl
                · skip
                  refine ⟨_, rfl, rfl, AOpB.op (ARd.opB (rd_load_bx rfl ag_3 rfl rfl rfl) ?_)⟩
                  refine ADB.n ?_
                  refine ADB.move 11 rfl (by kernel_rfl) rfl (AOpB.op (ARd.opB (rd_load_bx rfl ag_3 rfl rfl rfl) ?_))
                  refine ADB.n ?_
                  refine ADB.move 12 rfl (by kernel_rfl) rfl (AOpB.op (op_sliceM (n := d.q[j].size) rfl el_29 rfl rfl rfl rfl (by simp only [byA_len]; have := hsz h26; rw [hF] at this; exact this) ?_))
                  refine ADB.n ?_
                  refine ADB.r 15 rfl (rdP_iaddr_bx (i := 2) rfl ar_37 rfl rfl rfl (by first | rfl | omega) (by decide)) rfl ?_
                  refine ADB.move 16 rfl (by kernel_rfl) rfl (op_store rfl rfl rfl rfl rfl (by first | exact live_owM rfl | exact live_own rfl | exact live_nown rfl | rfl) sz_29 (Nat.le_of_ble_eq_true rfl) ?_)
                  refine ADB.n ?_
                  refine ADB.done (by kernel_rfl) ?_
                  exact ⟨rfl, rfl⟩
                · skip
                  refine ⟨_, rfl, rfl, AOpB.op (ARd.opB (rd_load_bx rfl ag_3 rfl rfl rfl) ?_)⟩
                  refine ADB.n ?_
                  refine ADB.all (is := [2, 12]) (by kernel_rfl) (by simp) ?_
                  intro i hi
                  simp only [List.mem_cons, List.not_mem_nil, or_false] at hi
                  rcases hi with rfl | rfl
                  · skip
                    refine ⟨_, rfl, rfl, AOpB.op (ARd.opB (rd_load_bx rfl ag_3 rfl rfl rfl) ?_)⟩
                    refine ADB.n ?_
                    refine ADB.move 12 rfl (by kernel_rfl) rfl (AOpB.op (op_sliceM (n := d.q[j].size) rfl el_29 rfl rfl rfl rfl (by simp only [byA_len]; have := hsz h26; rw [hF] at this; exact this) ?_))
                    refine ADB.n ?_
                    refine ADB.r 15 rfl (rdP_iaddr_bx (i := 2) rfl ar_37 rfl rfl rfl (by first | rfl | omega) (by decide)) rfl ?_
                    refine ADB.move 16 rfl (by kernel_rfl) rfl (op_store rfl rfl rfl rfl rfl (by first | exact live_owM rfl | exact live_own rfl | exact live_nown rfl | rfl) sz_29 (Nat.le_of_ble_eq_true rfl) ?_)
                    refine ADB.n ?_
                    refine ADB.done (by kernel_rfl) ?_
                    exact ⟨rfl, rfl⟩
                  · skip
                    refine ⟨_, rfl, rfl, AOpB.op (op_sliceM (n := d.q[j].size) rfl el_29 rfl rfl rfl rfl (by simp only [byA_len]; have := hsz h26; rw [hF] at this; exact this) ?_)⟩
                    refine ADB.n ?_
                    refine ADB.move 2 rfl (by kernel_rfl) rfl (AOpB.op (ARd.opB (rd_load_bx rfl ag_3 rfl rfl rfl) ?_))
                    refine ADB.n ?_
                    refine ADB.r 15 rfl (rdP_iaddr_bx (i := 2) rfl ar_37 rfl rfl rfl (by first | rfl | omega) (by decide)) rfl ?_
                    refine ADB.move 16 rfl (by kernel_rfl) rfl (op_store rfl rfl rfl rfl rfl (by first | exact live_owM rfl | exact live_own rfl | exact live_nown rfl | rfl) sz_29 (Nat.le_of_ble_eq_true rfl) ?_)
                    refine ADB.n ?_
                    refine ADB.done (by kernel_rfl) ?_
                    exact ⟨rfl, rfl⟩
              · skip
                refine ⟨_, rfl, rfl, AOpB.op (ARd.opB (rd_load_bx rfl ag_3 rfl rfl rfl) ?_)⟩
                refine ADB.n ?_
                refine ADB.all (is := [2, 9]) (by kernel_rfl) (by simp) ?_
                intro i hi
                simp only [List.mem_cons, List.not_mem_nil, or_false] at hi
                rcases hi with rfl | rfl
                · skip
                  refine ⟨_, rfl, rfl, AOpB.op (ARd.opB (rd_load_bx rfl ag_3 rfl rfl rfl) ?_)⟩
                  refine ADB.n ?_
                  refine ADB.move 9 rfl (by kernel_rfl) rfl (AOpB.op (ARd.opB (rd_load_bx rfl ag_29 rfl rfl rfl) ?_))
                  refine ADB.n ?_
                  refine ADB.move 12 rfl (by kernel_rfl) rfl (AOpB.op (op_sliceM (n := d.q[j].size) rfl el_29 rfl rfl rfl rfl (by simp only [byA_len]; have := hsz h26; rw [hF] at this; exact this) ?_))
                  refine ADB.n ?_
                  refine ADB.r 15 rfl (rdP_iaddr_bx (i := 2) rfl ar_37 rfl rfl rfl (by first | rfl | omega) (by decide)) rfl ?_
                  refine ADB.move 16 rfl (by kernel_rfl) rfl (op_store rfl rfl rfl rfl rfl (by first | exact live_owM rfl | exact live_own rfl | exact live_nown rfl | rfl) sz_29 (Nat.le_of_ble_eq_true rfl) ?_)
                  refine ADB.n ?_
                  refine ADB.done (by kernel_rfl) ?_
                  exact ⟨rfl, rfl⟩
                · skip
                  refine ⟨_, rfl, rfl, AOpB.op (ARd.opB (rd_load_bx rfl ag_29 rfl rfl rfl) ?_)⟩
                  refine ADB.n ?_
                  refine ADB.all (is := [2, 12]) (by kernel_rfl) (by simp) ?_
                  intro i hi
                  simp only [List.mem_cons, List.not_mem_nil, or_false] at hi
                  rcases hi with rfl | rfl
                  · skip
                    refine ⟨_, rfl, rfl, AOpB.op (ARd.opB (rd_load_bx rfl ag_3 rfl rfl rfl) ?_)⟩
                    refine ADB.n ?_
                    refine ADB.move 12 rfl (by kernel_rfl) rfl (AOpB.op (op_sliceM (n := d.q[j].size) rfl el_29 rfl rfl rfl rfl (by simp only [byA_len]; have := hsz h26; rw [hF] at this; exact this) ?_))
                    refine ADB.n ?_
                    refine ADB.r 15 rfl (rdP_iaddr_bx (i := 2) rfl ar_37 rfl rfl rfl (by first | rfl | omega) (by decide)) rfl ?_
                    refine ADB.move 16 rfl (by kernel_rfl) rfl (op_store rfl rfl rfl rfl rfl (by first | exact live_owM rfl | exact live_own rfl | exact live_nown rfl | rfl) sz_29 (Nat.le_of_ble_eq_true rfl) ?_)
                    refine ADB.n ?_
                    refine ADB.done (by kernel_rfl) ?_
                    exact ⟨rfl, rfl⟩
                  · skip
                    refine ⟨_, rfl, rfl, AOpB.op (op_sliceM (n := d.q[j].size) rfl el_29 rfl rfl rfl rfl (by simp only [byA_len]; have := hsz h26; rw [hF] at this; exact this) ?_)⟩
                    refine ADB.n ?_
                    refine ADB.move 2 rfl (by kernel_rfl) rfl (AOpB.op (ARd.opB (rd_load_bx rfl ag_3 rfl rfl rfl) ?_))
                    refine ADB.n ?_
                    refine ADB.r 15 rfl (rdP_iaddr_bx (i := 2) rfl ar_37 rfl rfl rfl (by first | rfl | omega) (by decide)) rfl ?_
                    refine ADB.move 16 rfl (by kernel_rfl) rfl (op_store rfl rfl rfl rfl rfl (by first | exact live_owM rfl | exact live_own rfl | exact live_nown rfl | rfl) sz_29 (Nat.le_of_ble_eq_true rfl) ?_)
                    refine ADB.n ?_
                    refine ADB.done (by kernel_rfl) ?_
                    exact ⟨rfl, rfl⟩
            · skip
              refine ⟨_, rfl, rfl, AOpB.op (ARd.opB (rd_load_bx rfl ag_3 rfl rfl rfl) ?_)⟩
              refine ADB.n ?_
              refine ADB.all (is := [2, 5]) (by kernel_rfl) (by simp) ?_
              intro i hi
              simp only [List.mem_cons, List.not_mem_nil, or_false] at hi
              rcases hi with rfl | rfl
              · skip
                refine ⟨_, rfl, rfl, AOpB.op (ARd.opB (rd_load_bx rfl ag_3 rfl rfl rfl) ?_)⟩
                refine ADB.n ?_
                refine ADB.move 5 rfl (by kernel_rfl) rfl (AOpB.op (ARd.opB (rd_load_bx rfl ag_3 rfl rfl rfl) ?_))
                refine ADB.n ?_
                refine ADB.r 8 rfl (rdP_iaddr_bx (i := 2) rfl ar_37 rfl rfl rfl (by first | rfl | omega) (by decide)) rfl ?_
                refine ADB.move 9 rfl (by kernel_rfl) rfl (AOpB.op (ARd.opB (rd_load_bx rfl ag_29 rfl rfl rfl) ?_))
                refine ADB.n ?_
                refine ADB.move 12 rfl (by kernel_rfl) rfl (AOpB.op (op_sliceM (n := d.q[j].size) rfl el_29 rfl rfl rfl rfl (by simp only [byA_len]; have := hsz h26; rw [hF] at this; exact this) ?_))
                refine ADB.n ?_
                refine ADB.r 15 rfl (rdP_iaddr_bx (i := 2) rfl ar_37 rfl rfl rfl (by first | rfl | omega) (by decide)) rfl ?_
                refine ADB.move 16 rfl (by kernel_rfl) rfl (op_store rfl rfl rfl rfl rfl (by first | exact live_owM rfl | exact live_own rfl | exact live_nown rfl | rfl) sz_29 (Nat.le_of_ble_eq_true rfl) ?_)
                refine ADB.n ?_
                refine ADB.done (by kernel_rfl) ?_
                exact ⟨rfl, rfl⟩
              · skip
                refine ⟨_, rfl, rfl, AOpB.op (ARd.opB (rd_load_bx rfl ag_3 rfl rfl rfl) ?_)⟩
                refine ADB.n ?_
                refine ADB.r 8 rfl (rdP_iaddr_bx (i := 2) rfl ar_37 rfl rfl rfl (by first | rfl | omega) (by decide)) rfl ?_
                refine ADB.all (is := [2, 9]) (by kernel_rfl) (by simp) ?_
                intro i hi
                simp only [List.mem_cons, List.not_mem_nil, or_false] at hi
                rcases hi with rfl | rfl
                · skip
                  refine ⟨_, rfl, rfl, AOpB.op (ARd.opB (rd_load_bx rfl ag_3 rfl rfl rfl) ?_)⟩
                  refine ADB.n ?_
                  refine ADB.move 9 rfl (by kernel_rfl) rfl (AOpB.op (ARd.opB (rd_load_bx rfl ag_29 rfl rfl rfl) ?_))
                  refine ADB.n ?_
                  refine ADB.move 12 rfl (by kernel_rfl) rfl (AOpB.op (op_sliceM (n := d.q[j].size) rfl el_29 rfl rfl rfl rfl (by simp only [byA_len]; have := hsz h26; rw [hF] at this; exact this) ?_))
                  refine ADB.n ?_
                  refine ADB.r 15 rfl (rdP_iaddr_bx (i := 2) rfl ar_37 rfl rfl rfl (by first | rfl | omega) (by decide)) rfl ?_
                  refine ADB.move 16 rfl (by kernel_rfl) rfl (op_store rfl rfl rfl rfl rfl (by first | exact live_owM rfl | exact live_own rfl | exact live_nown rfl | rfl) sz_29 (Nat.le_of_ble_eq_true rfl) ?_)
                  refine ADB.n ?_
                  refine ADB.done (by kernel_rfl) ?_
                  exact ⟨rfl, rfl⟩
                · skip
                  refine ⟨_, rfl, rfl, AOpB.op (ARd.opB (rd_load_bx rfl ag_29 rfl rfl rfl) ?_)⟩
                  refine ADB.n ?_
                  refine ADB.all (is := [2, 12]) (by kernel_rfl) (by simp) ?_
                  intro i hi
                  simp only [List.mem_cons, List.not_mem_nil, or_false] at hi
                  rcases hi with rfl | rfl
                  · skip
                    refine ⟨_, rfl, rfl, AOpB.op (ARd.opB (rd_load_bx rfl ag_3 rfl rfl rfl) ?_)⟩
                    refine ADB.n ?_
                    refine ADB.move 12 rfl (by kernel_rfl) rfl (AOpB.op (op_sliceM (n := d.q[j].size) rfl el_29 rfl rfl rfl rfl (by simp only [byA_len]; have := hsz h26; rw [hF] at this; exact this) ?_))
                    refine ADB.n ?_
                    refine ADB.r 15 rfl (rdP_iaddr_bx (i := 2) rfl ar_37 rfl rfl rfl (by first | rfl | omega) (by decide)) rfl ?_
                    refine ADB.move 16 rfl (by kernel_rfl) rfl (op_store rfl rfl rfl rfl rfl (by first | exact live_owM rfl | exact live_own rfl | exact live_nown rfl | rfl) sz_29 (Nat.le_of_ble_eq_true rfl) ?_)
                    refine ADB.n ?_
                    refine ADB.done (by kernel_rfl) ?_
                    exact ⟨rfl, rfl⟩
                  · skip
                    refine ⟨_, rfl, rfl, AOpB.op (op_sliceM (n := d.q[j].size) rfl el_29 rfl rfl rfl rfl (by simp only [byA_len]; have := hsz h26; rw [hF] at this; exact this) ?_)⟩
                    refine ADB.n ?_
                    refine ADB.move 2 rfl (by kernel_rfl) rfl (AOpB.op (ARd.opB (rd_load_bx rfl ag_3 rfl rfl rfl) ?_))
                    refine ADB.n ?_
                    refine ADB.r 15 rfl (rdP_iaddr_bx (i := 2) rfl ar_37 rfl rfl rfl (by first | rfl | omega) (by decide)) rfl ?_
                    refine ADB.move 16 rfl (by kernel_rfl) rfl (op_store rfl rfl rfl rfl rfl (by first | exact live_owM rfl | exact live_own rfl | exact live_nown rfl | rfl) sz_29 (Nat.le_of_ble_eq_true rfl) ?_)
                    refine ADB.n ?_
                    refine ADB.done (by kernel_rfl) ?_
                    exact ⟨rfl, rfl⟩
          skip
          change AW _ _ _ _ _
          refine AW.region ?_
          refine AL.r (rd_arith_add rfl rfl rfl (by first | exact IntWalk.i64_in _ (by omega) | rfl)) ?_
          refine AL.r (rd_move rfl rfl) ?_
          refine AL.nil ?_
          refine ⟨⟨j + 1, kp - cntN d.q[j] kp, stepL d.q[j] (cntN d.q[j] kp).toNat s, a5, a6, a7 + 1, a8⟩, ?_, by first | omega | (simp only []; omega), ?_, ?_⟩
          · exact hJ.next hjl h0
          · simp only [anys, upds, offs, List.set_cons_zero, List.set_cons_succ]; repeat (first | exact Wk.nil | refine Wk.same ?_ | refine Wk.any ?_)
          · simp only [anys, upds, offs, List.set_cons_zero, List.set_cons_succ]; repeat (first | exact Sk.nil _ | refine Sk.same _ ?_ | refine Sk.scr _ (by decide) ?_ | refine Sk.eq _ (by simp [stepL, upd, hF, h26]) ?_)
        · skip
          apply AW.drawS (by kernel_rfl)
          · skip
            refine ADA.r 0 rfl (ARdP.a (rdP_move rfl rfl)) rfl ?_
            refine ADA.r 1 rfl (ARdP.a (rdP_faddr_bx rfl fo_102_0 rfl rfl ⟨_, _, rfl⟩)) rfl ?_
            refine ADA.r 3 rfl (ARdP.a (rdP_move rfl rfl)) rfl ?_
            refine ADA.r 4 rfl (ARdP.a (rdP_faddr_bx rfl fo_102_0 rfl rfl ⟨_, _, rfl⟩)) rfl ?_
            refine ADA.r 6 rfl (ARdP.a (rdP_nilc_bx rfl rfl rfl)) rfl ?_
            refine ADA.r 7 rfl (ARdP.a (rdP_faddr_bx rfl fo_99_2 rfl rfl ⟨_, _, rfl⟩)) rfl ?_
            refine ADA.r 10 rfl (ARdP.a (rdP_faddr_bx rfl fo_102_2 rfl rfl ⟨_, _, rfl⟩)) rfl ?_
            refine ADA.r 13 rfl (ARdP.a (rdP_nilc_bx rfl rfl rfl)) rfl ?_
            refine ADA.r 14 rfl (ARdP.a (rdP_faddr_bx rfl fo_99_2 rfl rfl ⟨_, _, rfl⟩)) rfl ?_
            refine ADA.b ?_
            refine ADB.all (is := [2, 5, 11]) (by kernel_rfl) (by simp) ?_
            intro i hi
            simp only [List.mem_cons, List.not_mem_nil, or_false] at hi
            rcases hi with rfl | rfl | rfl
            · skip
              refine ⟨_, rfl, rfl, AOpB.op (ARd.opB (rd_load_bx rfl ag_3 rfl rfl rfl) ?_)⟩
              refine ADB.n ?_
              refine ADB.all (is := [5, 11]) (by kernel_rfl) (by simp) ?_
              intro i hi
              simp only [List.mem_cons, List.not_mem_nil, or_false] at hi
              rcases hi with rfl | rfl
              · skip
                refine ⟨_, rfl, rfl, AOpB.op (ARd.opB (rd_load_bx rfl ag_3 rfl rfl rfl) ?_)⟩
                refine ADB.n ?_
                refine ADB.r 8 rfl (rdP_iaddr_bx (i := 3) rfl ar_37 rfl rfl rfl (by first | rfl | omega) (by decide)) rfl ?_
                refine ADB.all (is := [9, 11]) (by kernel_rfl) (by simp) ?_
                intro i hi
                simp only [List.mem_cons, List.not_mem_nil, or_false] at hi
                rcases hi with rfl | rfl
                · skip
                  refine ⟨_, rfl, rfl, AOpB.op (ARd.opB (rd_load_bx rfl ag_29 rfl rfl rfl) ?_)⟩
                  refine ADB.n ?_
                  refine ADB.move 11 rfl (by kernel_rfl) rfl (AOpB.op (ARd.opB (rd_load_bx rfl ag_3 rfl rfl rfl) ?_))
                  refine ADB.n ?_
                  refine ADB.move 12 rfl (by kernel_rfl) rfl (AOpB.op (op_sliceM (n := d.q[j].size) rfl el_29 rfl rfl rfl rfl (by simp only [byA_len]; have := hsz h26; rw [hF] at this; exact this) ?_))
                  refine ADB.n ?_
                  refine ADB.r 15 rfl (rdP_iaddr_bx (i := 3) rfl ar_37 rfl rfl rfl (by first | rfl | omega) (by decide)) rfl ?_
                  refine ADB.move 16 rfl (by kernel_rfl) rfl (op_store rfl rfl rfl rfl rfl (by first | exact live_owM rfl | exact live_own rfl | exact live_nown rfl | rfl) sz_29 (Nat.le_of_ble_eq_true rfl) ?_)
                  refine ADB.n ?_
                  refine ADB.done (by kernel_rfl) ?_
                  exact ⟨rfl, rfl⟩
                · skip
                  refine ⟨_, rfl, rfl, AOpB.op (ARd.opB (rd_load_bx rfl ag_3 rfl rfl rfl) ?_)⟩
                  refine ADB.n ?_
                  refine ADB.move 9 rfl (by kernel_rfl) rfl (AOpB.op (ARd.opB (rd_load_bx rfl ag_29 rfl rfl rfl) ?_))
                  refine ADB.n ?_
                  refine ADB.move 12 rfl (by kernel_rfl) rfl (AOpB.op (op_sliceM (n := d.q[j].size) rfl el_29 rfl rfl rfl rfl (by simp only [byA_len]; have := hsz h26; rw [hF] at this; exact this) ?_))
                  refine ADB.n ?_
                  refine ADB.r 15 rfl (rdP_iaddr_bx (i := 3) rfl ar_37 rfl rfl rfl (by first | rfl | omega) (by decide)) rfl ?_
                  refine ADB.move 16 rfl (by kernel_rfl) rfl (op_store rfl rfl rfl rfl rfl (by first | exact live_owM rfl | exact live_own rfl | exact live_nown rfl | rfl) sz_29 (Nat.le_of_ble_eq_true rfl) ?_)
                  refine ADB.n ?_
                  refine ADB.done (by kernel_rfl) ?_
                  exact ⟨rfl, rfl⟩
              · skip
                refine ⟨_, rfl, rfl, AOpB.op (ARd.opB (rd_load_bx rfl ag_3 rfl rfl rfl) ?_)⟩
                refine ADB.n ?_
                refine ADB.move 5 rfl (by kernel_rfl) rfl (AOpB.op (ARd.opB (rd_load_bx rfl ag_3 rfl rfl rfl) ?_))
                refine ADB.n ?_
                refine ADB.r 8 rfl (rdP_iaddr_bx (i := 3) rfl ar_37 rfl rfl rfl (by first | rfl | omega) (by decide)) rfl ?_
                refine ADB.move 9 rfl (by kernel_rfl) rfl (AOpB.op (ARd.opB (rd_load_bx rfl ag_29 rfl rfl rfl) ?_))
                refine ADB.n ?_
                refine ADB.move 12 rfl (by kernel_rfl) rfl (AOpB.op (op_sliceM (n := d.q[j].size) rfl el_29 rfl rfl rfl rfl (by simp only [byA_len]; have := hsz h26; rw [hF] at this; exact this) ?_))
                refine ADB.n ?_
                refine ADB.r 15 rfl (rdP_iaddr_bx (i := 3) rfl ar_37 rfl rfl rfl (by first | rfl | omega) (by decide)) rfl ?_
                refine ADB.move 16 rfl (by kernel_rfl) rfl (op_store rfl rfl rfl rfl rfl (by first | exact live_owM rfl | exact live_own rfl | exact live_nown rfl | rfl) sz_29 (Nat.le_of_ble_eq_true rfl) ?_)
                refine ADB.n ?_
                refine ADB.done (by kernel_rfl) ?_
                exact ⟨rfl, rfl⟩
            · skip
              refine ⟨_, rfl, rfl, AOpB.op (ARd.opB (rd_load_bx rfl ag_3 rfl rfl rfl) ?_)⟩
              refine ADB.n ?_
              refine ADB.r 8 rfl (rdP_iaddr_bx (i := 3) rfl ar_37 rfl rfl rfl (by first | rfl | omega) (by decide)) rfl ?_
              refine ADB.all (is := [2, 9, 11]) (by kernel_rfl) (by simp) ?_
              intro i hi
              simp only [List.mem_cons, List.not_mem_nil, or_false] at hi
              rcases hi with rfl | rfl | rfl
              · skip
                refine ⟨_, rfl, rfl, AOpB.op (ARd.opB (rd_load_bx rfl ag_3 rfl rfl rfl) ?_)⟩
                refine ADB.n ?_
                refine ADB.all (is := [9, 11]) (by kernel_rfl) (by simp) ?_
                intro i hi
                simp only [List.mem_cons, List.not_mem_nil, or_false] at hi
                rcases hi with rfl | rfl
                · skip
                  refine ⟨_, rfl, rfl, AOpB.op (ARd.opB (rd_load_bx rfl ag_29 rfl rfl rfl) ?_)⟩
                  refine ADB.n ?_
                  refine ADB.move 11 rfl (by kernel_rfl) rfl (AOpB.op (ARd.opB (rd_load_bx rfl ag_3 rfl rfl rfl) ?_))
                  refine ADB.n ?_
                  refine ADB.move 12 rfl (by kernel_rfl) rfl (AOpB.op (op_sliceM (n := d.q[j].size) rfl el_29 rfl rfl rfl rfl (by simp only [byA_len]; have := hsz h26; rw [hF] at this; exact this) ?_))
                  refine ADB.n ?_
                  refine ADB.r 15 rfl (rdP_iaddr_bx (i := 3) rfl ar_37 rfl rfl rfl (by first | rfl | omega) (by decide)) rfl ?_
                  refine ADB.move 16 rfl (by kernel_rfl) rfl (op_store rfl rfl rfl rfl rfl (by first | exact live_owM rfl | exact live_own rfl | exact live_nown rfl | rfl) sz_29 (Nat.le_of_ble_eq_true rfl) ?_)
                  refine ADB.n ?_
                  refine ADB.done (by kernel_rfl) ?_
                  exact ⟨rfl, rfl⟩
                · skip
                  refine ⟨_, rfl, rfl, AOpB.op (ARd.opB (rd_load_bx rfl ag_3 rfl rfl rfl) ?_)⟩
                  refine ADB.n ?_
                  refine ADB.move 9 rfl (by kernel_rfl) rfl (AOpB.op (ARd.opB (rd_load_bx rfl ag_29 rfl rfl rfl) ?_))
                  refine ADB.n ?_
                  refine ADB.move 12 rfl (by kernel_rfl) rfl (AOpB.op (op_sliceM (n := d.q[j].size) rfl el_29 rfl rfl rfl rfl (by simp only [byA_len]; have := hsz h26; rw [hF] at this; exact this) ?_))
                  refine ADB.n ?_
                  refine ADB.r 15 rfl (rdP_iaddr_bx (i := 3) rfl ar_37 rfl rfl rfl (by first | rfl | omega) (by decide)) rfl ?_
                  refine ADB.move 16 rfl (by kernel_rfl) rfl (op_store rfl rfl rfl rfl rfl (by first | exact live_owM rfl | exact live_own rfl | exact live_nown rfl | rfl) sz_29 (Nat.le_of_ble_eq_true rfl) ?_)
                  refine ADB.n ?_
                  refine ADB.done (by kernel_rfl) ?_
                  exact ⟨rfl, rfl⟩
              · skip
                refine ⟨_, rfl, rfl, AOpB.op (ARd.opB (rd_load_bx rfl ag_29 rfl rfl rfl) ?_)⟩
                refine ADB.n ?_
                refine ADB.all (is := [2, 11]) (by kernel_rfl) (by simp) ?_
                intro i hi
                simp only [List.mem_cons, List.not_mem_nil, or_false] at hi
                rcases hi with rfl | rfl
                · skip
                  refine ⟨_, rfl, rfl, AOpB.op (ARd.opB (rd_load_bx rfl ag_3 rfl rfl rfl) ?_)⟩
                  refine ADB.n ?_
                  refine ADB.move 11 rfl (by kernel_rfl) rfl (AOpB.op (ARd.opB (rd_load_bx rfl ag_3 rfl rfl rfl) ?_))
                  refine ADB.n ?_
                  refine ADB.move 12 rfl (by kernel_rfl) rfl (AOpB.op (op_sliceM (n := d.q[j].size) rfl el_29 rfl rfl rfl rfl (by simp only [byA_len]; have := hsz h26; rw [hF] at this; exact this) ?_))
                  refine ADB.n ?_
                  refine ADB.r 15 rfl (rdP_iaddr_bx (i := 3) rfl ar_37 rfl rfl rfl (by first | rfl | omega) (by decide)) rfl ?_
                  refine ADB.move 16 rfl (by kernel_rfl) rfl (op_store rfl rfl rfl rfl rfl (by first | exact live_owM rfl | exact live_own rfl | exact live_nown rfl | rfl) sz_29 (Nat.le_of_ble_eq_true rfl) ?_)
                  refine ADB.n ?_
                  refine ADB.done (by kernel_rfl) ?_
                  exact ⟨rfl, rfl⟩
                · skip
                  refine ⟨_, rfl, rfl, AOpB.op (ARd.opB (rd_load_bx rfl ag_3 rfl rfl rfl) ?_)⟩
                  refine ADB.n ?_
                  refine ADB.all (is := [2, 12]) (by kernel_rfl) (by simp) ?_
                  intro i hi
                  simp only [List.mem_cons, List.not_mem_nil, or_false] at hi
                  rcases hi with rfl | rfl
                  · skip
                    refine ⟨_, rfl, rfl, AOpB.op (ARd.opB (rd_load_bx rfl ag_3 rfl rfl rfl) ?_)⟩
                    refine ADB.n ?_
                    refine ADB.move 12 rfl (by kernel_rfl) rfl (AOpB.op (op_sliceM (n := d.q[j].size) rfl el_29 rfl rfl rfl rfl (by simp only [byA_len]; have := hsz h26; rw [hF] at this; exact this) ?_))
                    refine ADB.n ?_
                    refine ADB.r 15 rfl (rdP_iaddr_bx (i := 3) rfl ar_37 rfl rfl rfl (by first | rfl | omega) (by decide)) rfl ?_
                    refine ADB.move 16 rfl (by kernel_rfl) rfl (op_store rfl rfl rfl rfl rfl (by first | exact live_owM rfl | exact live_own rfl | exact live_nown rfl | rfl) sz_29 (Nat.le_of_ble_eq_true rfl) ?_)
                    refine ADB.n ?_
                    refine ADB.done (by kernel_rfl) ?_
                    exact ⟨rfl, rfl⟩
                  · skip
                    refine ⟨_, rfl, rfl, AOpB.op (op_sliceM (n := d.q[j].size) rfl el_29 rfl rfl rfl rfl (by simp only [byA_len]; have := hsz h26; rw [hF] at this; exact this) ?_)⟩
                    refine ADB.n ?_
                    refine ADB.move 2 rfl (by kernel_rfl) rfl (AOpB.op (ARd.opB (rd_load_bx rfl ag_3 rfl rfl rfl) ?_))
                    refine ADB.n ?_
                    refine ADB.r 15 rfl (rdP_iaddr_bx (i := 3) rfl ar_37 rfl rfl rfl (by first | rfl | omega) (by decide)) rfl ?_
                    refine ADB.move 16 rfl (by kernel_rfl) rfl (op_store rfl rfl rfl rfl rfl (by first | exact live_owM rfl | exact live_own rfl | exact live_nown rfl | rfl) sz_29 (Nat.le_of_ble_eq_true rfl) ?_)
                    refine ADB.n ?_
                    refine ADB.done (by kernel_rfl) ?_
                    exact ⟨rfl, rfl⟩
              · skip
                refine ⟨_, rfl, rfl, AOpB.op (ARd.opB (rd_load_bx rfl ag_3 rfl rfl rfl) ?_)⟩
                refine ADB.n ?_
                refine ADB.all (is := [2, 9]) (by kernel_rfl) (by simp) ?_
                intro i hi
                simp only [List.mem_cons, List.not_mem_nil, or_false] at hi
                rcases hi with rfl | rfl
                · skip
                  refine ⟨_, rfl, rfl, AOpB.op (ARd.opB (rd_load_bx rfl ag_3 rfl rfl rfl) ?_)⟩
                  refine ADB.n ?_
                  refine ADB.move 9 rfl (by kernel_rfl) rfl (AOpB.op (ARd.opB (rd_load_bx rfl ag_29 rfl rfl rfl) ?_))
                  refine ADB.n ?_
                  refine ADB.move 12 rfl (by kernel_rfl) rfl (AOpB.op (op_sliceM (n := d.q[j].size) rfl el_29 rfl rfl rfl rfl (by simp only [byA_len]; have := hsz h26; rw [hF] at this; exact this) ?_))
                  refine ADB.n ?_
                  refine ADB.r 15 rfl (rdP_iaddr_bx (i := 3) rfl ar_37 rfl rfl rfl (by first | rfl | omega) (by decide)) rfl ?_
                  refine ADB.move 16 rfl (by kernel_rfl) rfl (op_store rfl rfl rfl rfl rfl (by first | exact live_owM rfl | exact live_own rfl | exact live_nown rfl | rfl) sz_29 (Nat.le_of_ble_eq_true rfl) ?_)
                  refine ADB.n ?_
                  refine ADB.done (by kernel_rfl) ?_
                  exact ⟨rfl, rfl⟩
                · skip
                  refine ⟨_, rfl, rfl, AOpB.op (ARd.opB (rd_load_bx rfl ag_29 rfl rfl rfl) ?_)⟩
                  refine ADB.n ?_
                  refine ADB.all (is := [2, 12]) (by kernel_rfl) (by simp) ?_
                  intro i hi
                  simp only [List.mem_cons, List.not_mem_nil, or_false] at hi
                  rcases hi with rfl | rfl
                  · skip
                    refine ⟨_, rfl, rfl, AOpB.op (ARd.opB (rd_load_bx rfl ag_3 rfl rfl rfl) ?_)⟩
                    refine ADB.n ?_
                    refine ADB.move 12 rfl (by kernel_rfl) rfl (AOpB.op (op_sliceM (n := d.q[j].size) rfl el_29 rfl rfl rfl rfl (by simp only [byA_len]; have := hsz h26; rw [hF] at this; exact this) ?_))
                    refine ADB.n ?_
                    refine ADB.r 15 rfl (rdP_iaddr_bx (i := 3) rfl ar_37 rfl rfl rfl (by first | rfl | omega) (by decide)) rfl ?_
                    refine ADB.move 16 rfl (by kernel_rfl) rfl (op_store rfl rfl rfl rfl rfl (by first | exact live_owM rfl | exact live_own rfl | exact live_nown rfl | rfl) sz_29 (Nat.le_of_ble_eq_true rfl) ?_)
                    refine ADB.n ?_
                    refine ADB.done (by kernel_rfl) ?_
                    exact ⟨rfl, rfl⟩
                  · skip
                    refine ⟨_, rfl, rfl, AOpB.op (op_sliceM (n := d.q[j].size) rfl el_29 rfl rfl rfl rfl (by simp only [byA_len]; have := hsz h26; rw [hF] at this; exact this) ?_)⟩
                    refine ADB.n ?_
                    refine ADB.move 2 rfl (by kernel_rfl) rfl (AOpB.op (ARd.opB (rd_load_bx rfl ag_3 rfl rfl rfl) ?_))
                    refine ADB.n ?_
                    refine ADB.r 15 rfl (rdP_iaddr_bx (i := 3) rfl ar_37 rfl rfl rfl (by first | rfl | omega) (by decide)) rfl ?_
                    refine ADB.move 16 rfl (by kernel_rfl) rfl (op_store rfl rfl rfl rfl rfl (by first | exact live_owM rfl | exact live_own rfl | exact live_nown rfl | rfl) sz_29 (Nat.le_of_ble_eq_true rfl) ?_)
                    refine ADB.n ?_
                    refine ADB.done (by kernel_rfl) ?_
                    exact ⟨rfl, rfl⟩
            · skip
              refine ⟨_, rfl, rfl, AOpB.op (ARd.opB (rd_load_bx rfl ag_3 rfl rfl rfl) ?_)⟩
              refine ADB.n ?_
              refine ADB.all (is := [2, 5]) (by kernel_rfl) (by simp) ?_
              intro i hi
              simp only [List.mem_cons, List.not_mem_nil, or_false] at hi
              rcases hi with rfl | rfl
              · skip
                refine ⟨_, rfl, rfl, AOpB.op (ARd.opB (rd_load_bx rfl ag_3 rfl rfl rfl) ?_)⟩
                refine ADB.n ?_
                refine ADB.move 5 rfl (by kernel_rfl) rfl (AOpB.op (ARd.opB (rd_load_bx rfl ag_3 rfl rfl rfl) ?_))
                refine ADB.n ?_
                refine ADB.r 8 rfl (rdP_iaddr_bx (i := 3) rfl ar_37 rfl rfl rfl (by first | rfl | omega) (by decide)) rfl ?_
                refine ADB.move 9 rfl (by kernel_rfl) rfl (AOpB.op (ARd.opB (rd_load_bx rfl ag_29 rfl rfl rfl) ?_))
                refine ADB.n ?_
                refine ADB.move 12 rfl (by kernel_rfl) rfl (AOpB.op (op_sliceM (n := d.q[j].size) rfl el_29 rfl rfl rfl rfl (by simp only [byA_len]; have := hsz h26; rw [hF] at this; exact this) ?_))
                refine ADB.n ?_
                refine ADB.r 15 rfl (rdP_iaddr_bx (i := 3) rfl ar_37 rfl rfl rfl (by first | rfl | omega) (by decide)) rfl ?_
                refine ADB.move 16 rfl (by kernel_rfl) rfl (op_store rfl rfl rfl rfl rfl (by first | exact live_owM rfl | exact live_own rfl | exact live_nown rfl | rfl) sz_29 (Nat.le_of_ble_eq_true rfl) ?_)
                refine ADB.n ?_
                refine ADB.done (by kernel_rfl) ?_
                exact ⟨rfl, rfl⟩
              · skip
                refine ⟨_, rfl, rfl, AOpB.op (ARd.opB (rd_load_bx rfl ag_3 rfl rfl rfl) ?_)⟩
                refine ADB.n ?_
                refine ADB.r 8 rfl (rdP_iaddr_bx (i := 3) rfl ar_37 rfl rfl rfl (by first | rfl | omega) (by decide)) rfl ?_
                refine ADB.all (is := [2, 9]) (by kernel_rfl) (by simp) ?_
                intro i hi
                simp only [List.mem_cons, List.not_mem_nil, or_false] at hi
                rcases hi with rfl | rfl
                · skip
                  refine ⟨_, rfl, rfl, AOpB.op (ARd.opB (rd_load_bx rfl ag_3 rfl rfl rfl) ?_)⟩
                  refine ADB.n ?_
                  refine ADB.move 9 rfl (by kernel_rfl) rfl (AOpB.op (ARd.opB (rd_load_bx rfl ag_29 rfl rfl rfl) ?_))
                  refine ADB.n ?_
                  refine ADB.move 12 rfl (by kernel_rfl) rfl (AOpB.op (op_sliceM (n := d.q[j].size) rfl el_29 rfl rfl rfl rfl (by simp only [byA_len]; have := hsz h26; rw [hF] at this; exact this) ?_))
                  refine ADB.n ?_
                  refine ADB.r 15 rfl (rdP_iaddr_bx (i := 3) rfl ar_37 rfl rfl rfl (by first | rfl | omega) (by decide)) rfl ?_
                  refine ADB.move 16 rfl (by kernel_rfl) rfl (op_store rfl rfl rfl rfl rfl (by first | exact live_owM rfl | exact live_own rfl | exact live_nown rfl | rfl) sz_29 (Nat.le_of_ble_eq_true rfl) ?_)
                  refine ADB.n ?_
                  refine ADB.done (by kernel_rfl) ?_
                  exact ⟨rfl, rfl⟩
                · skip
                  refine ⟨_, rfl, rfl, AOpB.op (ARd.opB (rd_load_bx rfl ag_29 rfl rfl rfl) ?_)⟩
                  refine ADB.n ?_
                  refine ADB.all (is := [2, 12]) (by kernel_rfl) (by simp) ?_
                  intro i hi
                  simp only [List.mem_cons, List.not_mem_nil, or_false] at hi
                  rcases hi with rfl | rfl
                  · skip
                    refine ⟨_, rfl, rfl, AOpB.op (ARd.opB (rd_load_bx rfl ag_3 rfl rfl rfl) ?_)⟩
                    refine ADB.n ?_
                    refine ADB.move 12 rfl (by kernel_rfl) rfl (AOpB.op (op_sliceM (n := d.q[j].size) rfl el_29 rfl rfl rfl rfl (by simp only [byA_len]; have := hsz h26; rw [hF] at this; exact this) ?_))
                    refine ADB.n ?_
                    refine ADB.r 15 rfl (rdP_iaddr_bx (i := 3) rfl ar_37 rfl rfl rfl (by first | rfl | omega) (by decide)) rfl ?_
                    refine ADB.move 16 rfl (by kernel_rfl) rfl (op_store rfl rfl rfl rfl rfl (by first | exact live_owM rfl | exact live_own rfl | exact live_nown rfl | rfl) sz_29 (Nat.le_of_ble_eq_true rfl) ?_)
                    refine ADB.n ?_
                    refine ADB.done (by kernel_rfl) ?_
                    exact ⟨rfl, rfl⟩
                  · skip
                    refine ⟨_, rfl, rfl, AOpB.op (op_sliceM (n := d.q[j].size) rfl el_29 rfl rfl rfl rfl (by simp only [byA_len]; have := hsz h26; rw [hF] at this; exact this) ?_)⟩
                    refine ADB.n ?_
                    refine ADB.move 2 rfl (by kernel_rfl) rfl (AOpB.op (ARd.opB (rd_load_bx rfl ag_3 rfl rfl rfl) ?_))
                    refine ADB.n ?_
                    refine ADB.r 15 rfl (rdP_iaddr_bx (i := 3) rfl ar_37 rfl rfl rfl (by first | rfl | omega) (by decide)) rfl ?_
                    refine ADB.move 16 rfl (by kernel_rfl) rfl (op_store rfl rfl rfl rfl rfl (by first | exact live_owM rfl | exact live_own rfl | exact live_nown rfl | rfl) sz_29 (Nat.le_of_ble_eq_true rfl) ?_)
                    refine ADB.n ?_
                    refine ADB.done (by kernel_rfl) ?_
                    exact ⟨rfl, rfl⟩
          skip
          change AW _ _ _ _ _
          refine AW.region ?_
          refine AL.r (rd_arith_add rfl rfl rfl (by first | exact IntWalk.i64_in _ (by omega) | rfl)) ?_
          refine AL.r (rd_move rfl rfl) ?_
          refine AL.nil ?_
          refine ⟨⟨j + 1, kp - cntN d.q[j] kp, stepL d.q[j] (cntN d.q[j] kp).toNat s, a5, a6, a7, a8 + 1⟩, ?_, by first | omega | (simp only []; omega), ?_, ?_⟩
          · exact hJ.next hjl h0
          · simp only [anys, upds, offs, List.set_cons_zero, List.set_cons_succ]; repeat (first | exact Wk.nil | refine Wk.same ?_ | refine Wk.any ?_)
          · simp only [anys, upds, offs, List.set_cons_zero, List.set_cons_succ]; repeat (first | exact Sk.nil _ | refine Sk.same _ ?_ | refine Sk.scr _ (by decide) ?_ | refine Sk.eq _ (by simp [stepL, upd, hF, h26]) ?_)
      · (try simp only [decide_eq_true_eq, decide_eq_false_iff_not, beq_iff_eq, beq_eq_false_iff_ne, bne_iff_ne, bne_eq_false_iff_eq, Bool.not_eq_true', Bool.not_eq_false', ne_eq, Bool.not_eq_eq_eq_not, Bool.not_true, Bool.not_false, gt_iff_lt, ge_iff_le, Bool.not_not] at h26)
        rcases hF with hF | hF | hF | hF <;> rw [hF]
        · skip
          apply AW.drawS (by kernel_rfl)
          · skip
            refine ADA.r 0 rfl (ARdP.a (rdP_move rfl rfl)) rfl ?_
            refine ADA.r 1 rfl (ARdP.a (rdP_faddr_bx rfl fo_102_0 rfl rfl ⟨_, _, rfl⟩)) rfl ?_
            refine ADA.r 3 rfl (ARdP.a (rdP_move rfl rfl)) rfl ?_
            refine ADA.r 4 rfl (ARdP.a (rdP_faddr_bx rfl fo_102_0 rfl rfl ⟨_, _, rfl⟩)) rfl ?_
            refine ADA.r 6 rfl (ARdP.a (rdP_nilc_bx rfl rfl rfl)) rfl ?_
            refine ADA.r 7 rfl (ARdP.a (rdP_faddr_bx rfl fo_99_2 rfl rfl ⟨_, _, rfl⟩)) rfl ?_
            refine ADA.r 10 rfl (ARdP.a (rdP_faddr_bx rfl fo_102_3 rfl rfl ⟨_, _, rfl⟩)) rfl ?_
            refine ADA.r 12 rfl (ARdP.a (rdP_move rfl rfl)) rfl ?_
            refine ADA.r 15 rfl (ARdP.a (rdP_nilc_bx rfl rfl rfl)) rfl ?_
            refine ADA.r 16 rfl (ARdP.a (rdP_faddr_bx rfl fo_99_2 rfl rfl ⟨_, _, rfl⟩)) rfl ?_
            refine ADA.b ?_
            refine ADB.all (is := [2, 5, 11]) (by kernel_rfl) (by simp) ?_
            intro i hi
            simp only [List.mem_cons, List.not_mem_nil, or_false] at hi
            rcases hi with rfl | rfl | rfl
            · skip
              refine ⟨_, rfl, rfl, AOpB.op (ARd.opB (rd_load_bx rfl ag_3 rfl rfl rfl) ?_)⟩
              refine ADB.n ?_
              refine ADB.all (is := [5, 11]) (by kernel_rfl) (by simp) ?_
              intro i hi
              simp only [List.mem_cons, List.not_mem_nil, or_false] at hi
              rcases hi with rfl | rfl
              · skip
                refine ⟨_, rfl, rfl, AOpB.op (ARd.opB (rd_load_bx rfl ag_3 rfl rfl rfl) ?_)⟩
                refine ADB.n ?_
                refine ADB.r 8 rfl (rdP_iaddr_bx (i := 0) rfl ar_37 rfl rfl rfl (by first | rfl | omega) (by decide)) rfl ?_
                refine ADB.all (is := [9, 11]) (by kernel_rfl) (by simp) ?_
                intro i hi
                simp only [List.mem_cons, List.not_mem_nil, or_false] at hi
                rcases hi with rfl | rfl
                · skip
                  refine ⟨_, rfl, rfl, AOpB.op (ARd.opB (rd_load_bx rfl ag_29 rfl rfl rfl) ?_)⟩
                  refine ADB.n ?_
                  refine ADB.move 11 rfl (by kernel_rfl) rfl (AOpB.op (ARd.opB (rd_load_bx rfl ag_29 rfl rfl rfl) ?_))
                  refine ADB.n ?_
                  refine ADB.r 13 rfl (rdP_slice_sl rfl el_29 rfl byA_one rfl ⟨_, _, rfl, (Int.toNat_of_nonneg (by omega)).symm⟩ (by omega) (by simp only [byA_len]; simp only [DeedD.count, h26, Bool.false_eq_true, if_false] at hcn; exact hcn)) rfl ?_
                  refine ADB.move 14 rfl (by kernel_rfl) rfl (op_appendM rfl ap_29 rfl rfl (src_sl rfl (by first | exact csS_one | exact byA_one | (intro cs hcs; obtain rfl := List.mem_singleton.1 hcs; rfl) | (intro cs hcs; obtain ⟨_, _, rfl⟩ := List.mem_map.1 hcs; rfl) | simp)) (by rw [hF] at hbl; simp [byA_len]; omega) (by rw [hF] at hbl; simp [byA_len]; omega) ?_)
                  refine ADB.n ?_
                  refine ADB.r 17 rfl (rdP_iaddr_bx (i := 0) rfl ar_37 rfl rfl rfl (by first | rfl | omega) (by decide)) rfl ?_
                  refine ADB.move 18 rfl (by kernel_rfl) rfl (op_store rfl rfl rfl rfl rfl (by first | exact live_owM rfl | exact live_own rfl | exact live_nown rfl | rfl) sz_29 (Nat.le_of_ble_eq_true rfl) ?_)
                  refine ADB.n ?_
                  refine ADB.done (by kernel_rfl) ?_
                  exact ⟨rfl, rfl⟩
                · skip
                  refine ⟨_, rfl, rfl, AOpB.op (ARd.opB (rd_load_bx rfl ag_29 rfl rfl rfl) ?_)⟩
                  refine ADB.n ?_
                  refine ADB.r 13 rfl (rdP_slice_sl rfl el_29 rfl byA_one rfl ⟨_, _, rfl, (Int.toNat_of_nonneg (by omega)).symm⟩ (by omega) (by simp only [byA_len]; simp only [DeedD.count, h26, Bool.false_eq_true, if_false] at hcn; exact hcn)) rfl ?_
                  refine ADB.move 9 rfl (by kernel_rfl) rfl (AOpB.op (ARd.opB (rd_load_bx rfl ag_29 rfl rfl rfl) ?_))
                  refine ADB.n ?_
                  refine ADB.move 14 rfl (by kernel_rfl) rfl (op_appendM rfl ap_29 rfl rfl (src_sl rfl (by first | exact csS_one | exact byA_one | (intro cs hcs; obtain rfl := List.mem_singleton.1 hcs; rfl) | (intro cs hcs; obtain ⟨_, _, rfl⟩ := List.mem_map.1 hcs; rfl) | simp)) (by rw [hF] at hbl; simp [byA_len]; omega) (by rw [hF] at hbl; simp [byA_len]; omega) ?_)
                  refine ADB.n ?_
                  refine ADB.r 17 rfl (rdP_iaddr_bx (i := 0) rfl ar_37 rfl rfl rfl (by first | rfl | omega) (by decide)) rfl ?_
                  refine ADB.move 18 rfl (by kernel_rfl) rfl (op_store rfl rfl rfl rfl rfl (by first | exact live_owM rfl | exact live_own rfl | exact live_nown rfl | rfl) sz_29 (Nat.le_of_ble_eq_true rfl) ?_)
                  refine ADB.n ?_
                  refine ADB.done (by kernel_rfl) ?_
                  exact ⟨rfl, rfl⟩
              · skip
                refine ⟨_, rfl, rfl, AOpB.op (ARd.opB (rd_load_bx rfl ag_29 rfl rfl rfl) ?_)⟩
                refine ADB.n ?_
                refine ADB.r 13 rfl (rdP_slice_sl rfl el_29 rfl byA_one rfl ⟨_, _, rfl, (Int.toNat_of_nonneg (by omega)).symm⟩ (by omega) (by simp only [byA_len]; simp only [DeedD.count, h26, Bool.false_eq_true, if_false] at hcn; exact hcn)) rfl ?_
                refine ADB.move 5 rfl (by kernel_rfl) rfl (AOpB.op (ARd.opB (rd_load_bx rfl ag_3 rfl rfl rfl) ?_))
                refine ADB.n ?_
                refine ADB.r 8 rfl (rdP_iaddr_bx (i := 0) rfl ar_37 rfl rfl rfl (by first | rfl | omega) (by decide)) rfl ?_
                refine ADB.move 9 rfl (by kernel_rfl) rfl (AOpB.op (ARd.opB (rd_load_bx rfl ag_29 rfl rfl rfl) ?_))
                refine ADB.n ?_
                refine ADB.move 14 rfl (by kernel_rfl) rfl (op_appendM rfl ap_29 rfl rfl (src_sl rfl (by first | exact csS_one | exact byA_one | (intro cs hcs; obtain rfl := List.mem_singleton.1 hcs; rfl) | (intro cs hcs; obtain ⟨_, _, rfl⟩ := List.mem_map.1 hcs; rfl) | simp)) (by rw [hF] at hbl; simp [byA_len]; omega) (by rw [hF] at hbl; simp [byA_len]; omega) ?_)
                refine ADB.n ?_
                refine ADB.r 17 rfl (rdP_iaddr_bx (i := 0) rfl ar_37 rfl rfl rfl (by first | rfl | omega) (by decide)) rfl ?_
                refine ADB.move 18 rfl (by kernel_rfl) rfl (op_store rfl rfl rfl rfl rfl (by first | exact live_owM rfl | exact live_own rfl | exact live_nown rfl | rfl) sz_29 (Nat.le_of_ble_eq_true rfl) ?_)
                refine ADB.n ?_
                refine ADB.done (by kernel_rfl) ?_
                exact ⟨rfl, rfl⟩
            · skip
              refine ⟨_, rfl, rfl, AOpB.op (ARd.opB (rd_load_bx rfl ag_3 rfl rfl rfl) ?_)⟩
              refine ADB.n ?_
              refine ADB.r 8 rfl (rdP_iaddr_bx (i := 0) rfl ar_37 rfl rfl rfl (by first | rfl | omega) (by decide)) rfl ?_
              refine ADB.all (is := [2, 9, 11]) (by kernel_rfl) (by simp) ?_
              intro i hi
              simp only [List.mem_cons, List.not_mem_nil, or_false] at hi
              rcases hi with rfl | rfl | rfl
              · skip
                refine ⟨_, rfl, rfl, AOpB.op (ARd.opB (rd_load_bx rfl ag_3 rfl rfl rfl) ?_)⟩
                refine ADB.n ?_
                refine ADB.all (is := [9, 11]) (by kernel_rfl) (by simp) ?_
                intro i hi
                simp only [List.mem_cons, List.not_mem_nil, or_false] at hi
                rcases hi with rfl | rfl
                · skip
                  refine ⟨_, rfl, rfl, AOpB.op (ARd.opB (rd_load_bx rfl ag_29 rfl rfl rfl) ?_)⟩
                  refine ADB.n ?_
                  refine ADB.move 11 rfl (by kernel_rfl) rfl (AOpB.op (ARd.opB (rd_load_bx rfl ag_29 rfl rfl rfl) ?_))
                  refine ADB.n ?_
                  refine ADB.r 13 rfl (rdP_slice_sl rfl el_29 rfl byA_one rfl ⟨_, _, rfl, (Int.toNat_of_nonneg (by omega)).symm⟩ (by omega) (by simp only [byA_len]; simp only [DeedD.count, h26, Bool.false_eq_true, if_false] at hcn; exact hcn)) rfl ?_
                  refine ADB.move 14 rfl (by kernel_rfl) rfl (op_appendM rfl ap_29 rfl rfl (src_sl rfl (by first | exact csS_one | exact byA_one | (intro cs hcs; obtain rfl := List.mem_singleton.1 hcs; rfl) | (intro cs hcs; obtain ⟨_, _, rfl⟩ := List.mem_map.1 hcs; rfl) | simp)) (by rw [hF] at hbl; simp [byA_len]; omega) (by rw [hF] at hbl; simp [byA_len]; omega) ?_)
                  refine ADB.n ?_
                  refine ADB.r 17 rfl (rdP_iaddr_bx (i := 0) rfl ar_37 rfl rfl rfl (by first | rfl | omega) (by decide)) rfl ?_
                  refine ADB.move 18 rfl (by kernel_rfl) rfl (op_store rfl rfl rfl rfl rfl (by first | exact live_owM rfl | exact live_own rfl | exact live_nown rfl | rfl) sz_29 (Nat.le_of_ble_eq_true rfl) ?_)
                  refine ADB.n ?_
                  refine ADB.done (by kernel_rfl) ?_
                  exact ⟨rfl, rfl⟩
                · skip
                  refine ⟨_, rfl, rfl, AOpB.op (ARd.opB (rd_load_bx rfl ag_29 rfl rfl rfl) ?_)⟩
                  refine ADB.n ?_
                  refine ADB.r 13 rfl (rdP_slice_sl rfl el_29 rfl byA_one rfl ⟨_, _, rfl, (Int.toNat_of_nonneg (by omega)).symm⟩ (by omega) (by simp only [byA_len]; simp only [DeedD.count, h26, Bool.false_eq_true, if_false] at hcn; exact hcn)) rfl ?_
                  refine ADB.move 9 rfl (by kernel_rfl) rfl (AOpB.op (ARd.opB (rd_load_bx rfl ag_29 rfl rfl rfl) ?_))
                  refine ADB.n ?_
                  refine ADB.move 14 rfl (by kernel_rfl) rfl (op_appendM rfl ap_29 rfl rfl (src_sl rfl (by first | exact csS_one | exact byA_one | (intro cs hcs; obtain rfl := List.mem_singleton.1 hcs; rfl) | (intro cs hcs; obtain ⟨_, _, rfl⟩ := List.mem_map.1 hcs; rfl) | simp)) (by rw [hF] at hbl; simp [byA_len]; omega) (by rw [hF] at hbl; simp [byA_len]; omega) ?_)
                  refine ADB.n ?_
                  refine ADB.r 17 rfl (rdP_iaddr_bx (i := 0) rfl ar_37 rfl rfl rfl (by first | rfl | omega) (by decide)) rfl ?_
                  refine ADB.move 18 rfl (by kernel_rfl) rfl (op_store rfl rfl rfl rfl rfl (by first | exact live_owM rfl | exact live_own rfl | exact live_nown rfl | rfl) sz_29 (Nat.le_of_ble_eq_true rfl) ?_)
                  refine ADB.n ?_
                  refine ADB.done (by kernel_rfl) ?_
                  exact ⟨rfl, rfl⟩
              · skip
                refine ⟨_, rfl, rfl, AOpB.op (ARd.opB (rd_load_bx rfl ag_29 rfl rfl rfl) ?_)⟩
                refine ADB.n ?_
                refine ADB.all (is := [2, 11]) (by kernel_rfl) (by simp) ?_
                intro i hi
                simp only [List.mem_cons, List.not_mem_nil, or_false] at hi
                rcases hi with rfl | rfl
                · skip
                  refine ⟨_, rfl, rfl, AOpB.op (ARd.opB (rd_load_bx rfl ag_3 rfl rfl rfl) ?_)⟩
                  refine ADB.n ?_
                  refine ADB.move 11 rfl (by kernel_rfl) rfl (AOpB.op (ARd.opB (rd_load_bx rfl ag_29 rfl rfl rfl) ?_))
                  refine ADB.n ?_
                  refine ADB.r 13 rfl (rdP_slice_sl rfl el_29 rfl byA_one rfl ⟨_, _, rfl, (Int.toNat_of_nonneg (by omega)).symm⟩ (by omega) (by simp only [byA_len]; simp only [DeedD.count, h26, Bool.false_eq_true, if_false] at hcn; exact hcn)) rfl ?_
                  refine ADB.move 14 rfl (by kernel_rfl) rfl (op_appendM rfl ap_29 rfl rfl (src_sl rfl (by first | exact csS_one | exact byA_one | (intro cs hcs; obtain rfl := List.mem_singleton.1 hcs; rfl) | (intro cs hcs; obtain ⟨_, _, rfl⟩ := List.mem_map.1 hcs; rfl) | simp)) (by rw [hF] at hbl; simp [byA_len]; omega) (by rw [hF] at hbl; simp [byA_len]; omega) ?_)
                  refine ADB.n ?_
                  refine ADB.r 17 rfl (rdP_iaddr_bx (i := 0) rfl ar_37 rfl rfl rfl (by first | rfl | omega) (by decide)) rfl ?_
                  refine ADB.move 18 rfl (by kernel_rfl) rfl (op_store rfl rfl rfl rfl rfl (by first | exact live_owM rfl | exact live_own rfl | exact live_nown rfl | rfl) sz_29 (Nat.le_of_ble_eq_true rfl) ?_)
                  refine ADB.n ?_
                  refine ADB.done (by kernel_rfl) ?_
                  exact ⟨rfl, rfl⟩
                · skip
                  refine ⟨_, rfl, rfl, AOpB.op (ARd.opB (rd_load_bx rfl ag_29 rfl rfl rfl) ?_)⟩
                  refine ADB.n ?_
                  refine ADB.r 13 rfl (rdP_slice_sl rfl el_29 rfl byA_one rfl ⟨_, _, rfl, (Int.toNat_of_nonneg (by omega)).symm⟩ (by omega) (by simp only [byA_len]; simp only [DeedD.count, h26, Bool.false_eq_true, if_false] at hcn; exact hcn)) rfl ?_
                  refine ADB.all (is := [2, 14]) (by kernel_rfl) (by simp) ?_
                  intro i hi
                  simp only [List.mem_cons, List.not_mem_nil, or_false] at hi
                  rcases hi with rfl | rfl
                  · skip
                    refine ⟨_, rfl, rfl, AOpB.op (ARd.opB (rd_load_bx rfl ag_3 rfl rfl rfl) ?_)⟩
                    refine ADB.n ?_
                    refine ADB.move 14 rfl (by kernel_rfl) rfl (op_appendM rfl ap_29 rfl rfl (src_sl rfl (by first | exact csS_one | exact byA_one | (intro cs hcs; obtain rfl := List.mem_singleton.1 hcs; rfl) | (intro cs hcs; obtain ⟨_, _, rfl⟩ := List.mem_map.1 hcs; rfl) | simp)) (by rw [hF] at hbl; simp [byA_len]; omega) (by rw [hF] at hbl; simp [byA_len]; omega) ?_)
                    refine ADB.n ?_
                    refine ADB.r 17 rfl (rdP_iaddr_bx (i := 0) rfl ar_37 rfl rfl rfl (by first | rfl | omega) (by decide)) rfl ?_
                    refine ADB.move 18 rfl (by kernel_rfl) rfl (op_store rfl rfl rfl rfl rfl (by first | exact live_owM rfl | exact live_own rfl | exact live_nown rfl | rfl) sz_29 (Nat.le_of_ble_eq_true rfl) ?_)
                    refine ADB.n ?_
                    refine ADB.done (by kernel_rfl) ?_
                    exact ⟨rfl, rfl⟩
                  · skip
                    refine ⟨_, rfl, rfl, op_appendM rfl ap_29 rfl rfl (src_sl rfl (by first | exact csS_one | exact byA_one | (intro cs hcs; obtain rfl := List.mem_singleton.1 hcs; rfl) | (intro cs hcs; obtain ⟨_, _, rfl⟩ := List.mem_map.1 hcs; rfl) | simp)) (by rw [hF] at hbl; simp [byA_len]; omega) (by rw [hF] at hbl; simp [byA_len]; omega) ?_⟩
                    refine ADB.n ?_
                    refine ADB.move 2 rfl (by kernel_rfl) rfl (AOpB.op (ARd.opB (rd_load_bx rfl ag_3 rfl rfl rfl) ?_))
                    refine ADB.n ?_
                    refine ADB.r 17 rfl (rdP_iaddr_bx (i := 0) rfl ar_37 rfl rfl rfl (by first | rfl | omega) (by decide)) rfl ?_
                    refine ADB.move 18 rfl (by kernel_rfl) rfl (op_store rfl rfl rfl rfl rfl (by first | exact live_owM rfl | exact live_own rfl | exact live_nown rfl | rfl) sz_29 (Nat.le_of_ble_eq_true rfl) ?_)
                    refine ADB.n ?_
                    refine ADB.done (by kernel_rfl) ?_
                    exact ⟨rfl, rfl⟩
              · skip
                refine ⟨_, rfl, rfl, AOpB.op (ARd.opB (rd_load_bx rfl ag_29 rfl rfl rfl) ?_)⟩
                refine ADB.n ?_
                refine ADB.r 13 rfl (rdP_slice_sl rfl el_29 rfl byA_one rfl ⟨_, _, rfl, (Int.toNat_of_nonneg (by omega)).symm⟩ (by omega) (by simp only [byA_len]; simp only [DeedD.count, h26, Bool.false_eq_true, if_false] at hcn; exact hcn)) rfl ?_
                refine ADB.all (is := [2, 9]) (by kernel_rfl) (by simp) ?_
                intro i hi
                simp only [List.mem_cons, List.not_mem_nil, or_false] at hi
                rcases hi with rfl | rfl
                · skip
                  refine ⟨_, rfl, rfl, AOpB.op (ARd.opB (rd_load_bx rfl ag_3 rfl rfl rfl) ?_)⟩
                  refine ADB.n ?_
                  refine ADB.move 9 rfl (by kernel_rfl) rfl (AOpB.op (ARd.opB (rd_load_bx rfl ag_29 rfl rfl rfl) ?_))
                  refine ADB.n ?_
                  refine ADB.move 14 rfl (by kernel_rfl) rfl (op_appendM rfl ap_29 rfl rfl (src_sl rfl (by first | exact csS_one | exact byA_one | (intro cs hcs; obtain rfl := List.mem_singleton.1 hcs; rfl) | (intro cs hcs; obtain ⟨_, _, rfl⟩ := List.mem_map.1 hcs; rfl) | simp)) (by rw [hF] at hbl; simp [byA_len]; omega) (by rw [hF] at hbl; simp [byA_len]; omega) ?_)
                  refine ADB.n ?_
                  refine ADB.r 17 rfl (rdP_iaddr_bx (i := 0) rfl ar_37 rfl rfl rfl (by first | rfl | omega) (by decide)) rfl ?_
                  refine ADB.move 18 rfl (by kernel_rfl) rfl (op_store rfl rfl rfl rfl rfl (by first | exact live_owM rfl | exact live_own rfl | exact live_nown rfl | rfl) sz_29 (Nat.le_of_ble_eq_true rfl) ?_)
                  refine ADB.n ?_
                  refine ADB.done (by kernel_rfl) ?_
                  exact ⟨rfl, rfl⟩
                · skip
                  refine ⟨_, rfl, rfl, AOpB.op (ARd.opB (rd_load_bx rfl ag_29 rfl rfl rfl) ?_)⟩
                  refine ADB.n ?_
                  refine ADB.all (is := [2, 14]) (by kernel_rfl) (by simp) ?_
                  intro i hi
                  simp only [List.mem_cons, List.not_mem_nil, or_false] at hi
                  rcases hi with rfl | rfl
                  · skip
                    refine ⟨_, rfl, rfl, AOpB.op (ARd.opB (rd_load_bx rfl ag_3 rfl rfl rfl) ?_)⟩
                    refine ADB.n ?_
                    refine ADB.move 14 rfl (by kernel_rfl) rfl (op_appendM rfl ap_29 rfl rfl (src_sl rfl (by first | exact csS_one | exact byA_one | (intro cs hcs; obtain rfl := List.mem_singleton.1 hcs; rfl) | (intro cs hcs; obtain ⟨_, _, rfl⟩ := List.mem_map.1 hcs; rfl) | simp)) (by rw [hF] at hbl; simp [byA_len]; omega) (by rw [hF] at hbl; simp [byA_len]; omega) ?_)
                    refine ADB.n ?_
                    refine ADB.r 17 rfl (rdP_iaddr_bx (i := 0) rfl ar_37 rfl rfl rfl (by first | rfl | omega) (by decide)) rfl ?_
                    refine ADB.move 18 rfl (by kernel_rfl) rfl (op_store rfl rfl rfl rfl rfl (by first | exact live_owM rfl | exact live_own rfl | exact live_nown rfl | rfl) sz_29 (Nat.le_of_ble_eq_true rfl) ?_)
                    refine ADB.n ?_
                    refine ADB.done (by kernel_rfl) ?_
                    exact ⟨rfl, rfl⟩
                  · skip
                    refine ⟨_, rfl, rfl, op_appendM rfl ap_29 rfl rfl (src_sl rfl (by first | exact csS_one | exact byA_one | (intro cs hcs; obtain rfl := List.mem_singleton.1 hcs; rfl) | (intro cs hcs; obtain ⟨_, _, rfl⟩ := List.mem_map.1 hcs; rfl) | simp)) (by rw [hF] at hbl; simp [byA_len]; omega) (by rw [hF] at hbl; simp [byA_len]; omega) ?_⟩
                    refine ADB.n ?_
                    refine ADB.move 2 rfl (by kernel_rfl) rfl (AOpB.op (ARd.opB (rd_load_bx rfl ag_3 rfl rfl rfl) ?_))
                    refine ADB.n ?_
                    refine ADB.r 17 rfl (rdP_iaddr_bx (i := 0) rfl ar_37 rfl rfl rfl (by first | rfl | omega) (by decide)) rfl ?_
                    refine ADB.move 18 rfl (by kernel_rfl) rfl (op_store rfl rfl rfl rfl rfl (by first | exact live_owM rfl | exact live_own rfl | exact live_nown rfl | rfl) sz_29 (Nat.le_of_ble_eq_true rfl) ?_)
                    refine ADB.n ?_
                    refine ADB.done (by kernel_rfl) ?_
                    exact ⟨rfl, rfl⟩
            · skip
              refine ⟨_, rfl, rfl, AOpB.op (ARd.opB (rd_load_bx rfl ag_29 rfl rfl rfl) ?_)⟩
              refine ADB.n ?_
              refine ADB.r 13 rfl (rdP_slice_sl rfl el_29 rfl byA_one rfl ⟨_, _, rfl, (Int.toNat_of_nonneg (by omega)).symm⟩ (by omega) (by simp only [byA_len]; simp only [DeedD.count, h26, Bool.false_eq_true, if_false] at hcn; exact hcn)) rfl ?_
              refine ADB.all (is := [2, 5]) (by kernel_rfl) (by simp) ?_
              intro i hi
              simp only [List.mem_cons, List.not_mem_nil, or_false] at hi
              rcases hi with rfl | rfl
              · skip
                refine ⟨_, rfl, rfl, AOpB.op (ARd.opB (rd_load_bx rfl ag_3 rfl rfl rfl) ?_)⟩
                refine ADB.n ?_
                refine ADB.move 5 rfl (by kernel_rfl) rfl (AOpB.op (ARd.opB (rd_load_bx rfl ag_3 rfl rfl rfl) ?_))
                refine ADB.n ?_
                refine ADB.r 8 rfl (rdP_iaddr_bx (i := 0) rfl ar_37 rfl rfl rfl (by first | rfl | omega) (by decide)) rfl ?_
                refine ADB.move 9 rfl (by kernel_rfl) rfl (AOpB.op (ARd.opB (rd_load_bx rfl ag_29 rfl rfl rfl) ?_))
                refine ADB.n ?_
                refine ADB.move 14 rfl (by kernel_rfl) rfl (op_appendM rfl ap_29 rfl rfl (src_sl rfl (by first | exact csS_one | exact byA_one | (intro cs hcs; obtain rfl := List.mem_singleton.1 hcs; rfl) | (intro cs hcs; obtain ⟨_, _, rfl⟩ := List.mem_map.1 hcs; rfl) | simp)) (by rw [hF] at hbl; simp [byA_len]; omega) (by rw [hF] at hbl; simp [byA_len]; omega) ?_)
                refine ADB.n ?_
                refine ADB.r 17 rfl (rdP_iaddr_bx (i := 0) rfl ar_37 rfl rfl rfl (by first | rfl | omega) (by decide)) rfl ?_
                refine ADB.move 18 rfl (by kernel_rfl) rfl (op_store rfl rfl rfl rfl rfl (by first | exact live_owM rfl | exact live_own rfl | exact live_nown rfl | rfl) sz_29 (Nat.le_of_ble_eq_true rfl) ?_)
                refine ADB.n ?_
                refine ADB.done (by kernel_rfl) ?_
                exact ⟨rfl, rfl⟩
              · skip
                refine ⟨_, rfl, rfl, AOpB.op (ARd.opB (rd_load_bx rfl ag_3 rfl rfl rfl) ?_)⟩
                refine ADB.n ?_
                refine ADB.r 8 rfl (rdP_iaddr_bx (i := 0) rfl ar_37 rfl rfl rfl (by first | rfl | omega) (by decide)) rfl ?_
                refine ADB.all (is := [2, 9]) (by kernel_rfl) (by simp) ?_
                intro i hi
                simp only [List.mem_cons, List.not_mem_nil, or_false] at hi
                rcases hi with rfl | rfl
                · skip
                  refine ⟨_, rfl, rfl, AOpB.op (ARd.opB (rd_load_bx rfl ag_3 rfl rfl rfl) ?_)⟩
                  refine ADB.n ?_
                  refine ADB.move 9 rfl (by kernel_rfl) rfl (AOpB.op (ARd.opB (rd_load_bx rfl ag_29 rfl rfl rfl) ?_))
                  refine ADB.n ?_
                  refine ADB.move 14 rfl (by kernel_rfl) rfl (op_appendM rfl ap_29 rfl rfl (src_sl rfl (by first | exact csS_one | exact byA_one | (intro cs hcs; obtain rfl := List.mem_singleton.1 hcs; rfl) | (intro cs hcs; obtain ⟨_, _, rfl⟩ := List.mem_map.1 hcs; rfl) | simp)) (by rw [hF] at hbl; simp [byA_len]; omega) (by rw [hF] at hbl; simp [byA_len]; omega) ?_)
                  refine ADB.n ?_
                  refine ADB.r 17 rfl (rdP_iaddr_bx (i := 0) rfl ar_37 rfl rfl rfl (by first | rfl | omega) (by decide)) rfl ?_
                  refine ADB.move 18 rfl (by kernel_rfl) rfl (op_store rfl rfl rfl rfl rfl (by first | exact live_owM rfl | exact live_own rfl | exact live_nown rfl | rfl) sz_29 (Nat.le_of_ble_eq_true rfl) ?_)
                  refine ADB.n ?_
                  refine ADB.done (by kernel_rfl) ?_
                  exact ⟨rfl, rfl⟩
                · skip
                  refine ⟨_, rfl, rfl, AOpB.op (ARd.opB (rd_load_bx rfl ag_29 rfl rfl rfl) ?_)⟩
                  refine ADB.n ?_
                  refine ADB.all (is := [2, 14]) (by kernel_rfl) (by simp) ?_
                  intro i hi
                  simp only [List.mem_cons, List.not_mem_nil, or_false] at hi
                  rcases hi with rfl | rfl
                  · skip
                    refine ⟨_, rfl, rfl, AOpB.op (ARd.opB (rd_load_bx rfl ag_3 rfl rfl rfl) ?_)⟩
                    refine ADB.n ?_
                    refine ADB.move 14 rfl (by kernel_rfl) rfl (op_appendM rfl ap_29 rfl rfl (src_sl rfl (by first | exact csS_one | exact byA_one | (intro cs hcs; obtain rfl := List.mem_singleton.1 hcs; rfl) | (intro cs hcs; obtain ⟨_, _, rfl⟩ := List.mem_map.1 hcs; rfl) | simp)) (by rw [hF] at hbl; simp [byA_len]; omega) (by rw [hF] at hbl; simp [byA_len]; omega) ?_)
                    refine ADB.n ?_
                    refine ADB.r 17 rfl (rdP_iaddr_bx (i := 0) rfl ar_37 rfl rfl rfl (by first | rfl | omega) (by decide)) rfl ?_
                    refine ADB.move 18 rfl (by kernel_rfl) rfl (op_store rfl rfl rfl rfl rfl (by first | exact live_owM rfl | exact live_own rfl | exact live_nown rfl | rfl) sz_29 (Nat.le_of_ble_eq_true rfl) ?_)
                    refine ADB.n ?_
                    refine ADB.done (by kernel_rfl) ?_
                    exact ⟨rfl, rfl⟩
                  · skip
                    refine ⟨_, rfl, rfl, op_appendM rfl ap_29 rfl rfl (src_sl rfl (by first | exact csS_one | exact byA_one | (intro cs hcs; obtain rfl := List.mem_singleton.1 hcs; rfl) | (intro cs hcs; obtain ⟨_, _, rfl⟩ := List.mem_map.1 hcs; rfl) | simp)) (by rw [hF] at hbl; simp [byA_len]; omega) (by rw [hF] at hbl; simp [byA_len]; omega) ?_⟩
                    refine ADB.n ?_
                    refine ADB.move 2 rfl (by kernel_rfl) rfl (AOpB.op (ARd.opB (rd_load_bx rfl ag_3 rfl rfl rfl) ?_))
                    refine ADB.n ?_
                    refine ADB.r 17 rfl (rdP_iaddr_bx (i := 0) rfl ar_37 rfl rfl rfl (by first | rfl | omega) (by decide)) rfl ?_
                    refine ADB.move 18 rfl (by kernel_rfl) rfl (op_store rfl rfl rfl rfl rfl (by first | exact live_owM rfl | exact live_own rfl | exact live_nown rfl | rfl) sz_29 (Nat.le_of_ble_eq_true rfl) ?_)
                    refine ADB.n ?_
                    refine ADB.done (by kernel_rfl) ?_
                    exact ⟨rfl, rfl⟩
          skip
          change AW _ _ _ _ _
          refine AW.region ?_
          refine AL.r (rd_arith_add rfl rfl rfl (by first | exact IntWalk.i64_in _ (by omega) | rfl)) ?_
          refine AL.r (rd_move rfl rfl) ?_
          refine AL.nil ?_
          refine ⟨⟨j + 1, kp - cntN d.q[j] kp, stepL d.q[j] (cntN d.q[j] kp).toNat s, a5 + 1, a6, a7, a8⟩, ?_, by first | omega | (simp only []; omega), ?_, ?_⟩
          · exact hJ.next hjl h0
          · simp only [anys, upds, offs, List.set_cons_zero, List.set_cons_succ]; repeat (first | exact Wk.nil | refine Wk.same ?_ | refine Wk.any ?_)
          · simp only [anys, upds, offs, List.set_cons_zero, List.set_cons_succ]; repeat (first | exact Sk.nil _ | refine Sk.same _ ?_ | refine Sk.scr _ (by decide) ?_ | refine Sk.eq _ (by simp [stepL, upd, hF, h26]) ?_)
        · skip
          apply AW.drawS (by kernel_rfl)
          · skip
            refine ADA.r 0 rfl (ARdP.a (rdP_move rfl rfl)) rfl ?_
            refine ADA.r 1 rfl (ARdP.a (rdP_faddr_bx rfl fo_102_0 rfl rfl ⟨_, _, rfl⟩)) rfl ?_
            refine ADA.r 3 rfl (ARdP.a (rdP_move rfl rfl)) rfl ?_
            refine ADA.r 4 rfl (ARdP.a (rdP_faddr_bx rfl fo_102_0 rfl rfl ⟨_, _, rfl⟩)) rfl ?_
            refine ADA.r 6 rfl (ARdP.a (rdP_nilc_bx rfl rfl rfl)) rfl ?_
            refine ADA.r 7 rfl (ARdP.a (rdP_faddr_bx rfl fo_99_2 rfl rfl ⟨_, _, rfl⟩)) rfl ?_
            refine ADA.r 10 rfl (ARdP.a (rdP_faddr_bx rfl fo_102_3 rfl rfl ⟨_, _, rfl⟩)) rfl ?_
            refine ADA.r 12 rfl (ARdP.a (rdP_move rfl rfl)) rfl ?_
            refine ADA.r 15 rfl (ARdP.a (rdP_nilc_bx rfl rfl rfl)) rfl ?_
            refine ADA.r 16 rfl (ARdP.a (rdP_faddr_bx rfl fo_99_2 rfl rfl ⟨_, _, rfl⟩)) rfl ?_
            refine ADA.b ?_
            refine ADB.all (is := [2, 5, 11]) (by kernel_rfl) (by simp) ?_
            intro i hi
            simp only [List.mem_cons, List.not_mem_nil, or_false] at hi
            rcases hi with rfl | rfl | rfl
            · skip
              refine ⟨_, rfl, rfl, AOpB.op (ARd.opB (rd_load_bx rfl ag_3 rfl rfl rfl) ?_)⟩
              refine ADB.n ?_
              refine ADB.all (is := [5, 11]) (by kernel_rfl) (by simp) ?_
              intro i hi
              simp only [List.mem_cons, List.not_mem_nil, or_false] at hi
              rcases hi with rfl | rfl
              · skip
                refine ⟨_, rfl, rfl, AOpB.op (ARd.opB (rd_load_bx rfl ag_3 rfl rfl rfl) ?_)⟩
                refine ADB.n ?_
                refine ADB.r 8 rfl (rdP_iaddr_bx (i := 1) rfl ar_37 rfl rfl rfl (by first | rfl | omega) (by decide)) rfl ?_
                refine ADB.all (is := [9, 11]) (by kernel_rfl) (by simp) ?_
                intro i hi
                simp only [List.mem_cons, List.not_mem_nil, or_false] at hi
                rcases hi with rfl | rfl
                · skip
                  refine ⟨_, rfl, rfl, AOpB.op (ARd.opB (rd_load_bx rfl ag_29 rfl rfl rfl) ?_)⟩
                  refine ADB.n ?_
                  refine ADB.move 11 rfl (by kernel_rfl) rfl (AOpB.op (ARd.opB (rd_load_bx rfl ag_29 rfl rfl rfl) ?_))
                  refine ADB.n ?_
                  refine ADB.r 13 rfl (rdP_slice_sl rfl el_29 rfl byA_one rfl ⟨_, _, rfl, (Int.toNat_of_nonneg (by omega)).symm⟩ (by omega) (by simp only [byA_len]; simp only [DeedD.count, h26, Bool.false_eq_true, if_false] at hcn; exact hcn)) rfl ?_
                  refine ADB.move 14 rfl (by kernel_rfl) rfl (op_appendM rfl ap_29 rfl rfl (src_sl rfl (by first | exact csS_one | exact byA_one | (intro cs hcs; obtain rfl := List.mem_singleton.1 hcs; rfl) | (intro cs hcs; obtain ⟨_, _, rfl⟩ := List.mem_map.1 hcs; rfl) | simp)) (by rw [hF] at hbl; simp [byA_len]; omega) (by rw [hF] at hbl; simp [byA_len]; omega) ?_)
                  refine ADB.n ?_
                  refine ADB.r 17 rfl (rdP_iaddr_bx (i := 1) rfl ar_37 rfl rfl rfl (by first | rfl | omega) (by decide)) rfl ?_
                  refine ADB.move 18 rfl (by kernel_rfl) rfl (op_store rfl rfl rfl rfl rfl (by first | exact live_owM rfl | exact live_own rfl | exact live_nown rfl | rfl) sz_29 (Nat.le_of_ble_eq_true rfl) ?_)
                  refine ADB.n ?_
                  refine ADB.done (by kernel_rfl) ?_
                  exact ⟨rfl, rfl⟩
                · skip
                  refine ⟨_, rfl, rfl, AOpB.op (ARd.opB (rd_load_bx rfl ag_29 rfl rfl rfl) ?_)⟩
                  refine ADB.n ?_
                  refine ADB.r 13 rfl (rdP_slice_sl rfl el_29 rfl byA_one rfl ⟨_, _, rfl, (Int.toNat_of_nonneg (by omega)).symm⟩ (by omega) (by simp only [byA_len]; simp only [DeedD.count, h26, Bool.false_eq_true, if_false] at hcn; exact hcn)) rfl ?_
                  refine ADB.move 9 rfl (by kernel_rfl) rfl (AOpB.op (ARd.opB (rd_load_bx rfl ag_29 rfl rfl rfl) ?_))
                  refine ADB.n ?_
                  refine ADB.move 14 rfl (by kernel_rfl) rfl (op_appendM rfl ap_29 rfl rfl (src_sl rfl (by first | exact csS_one | exact byA_one | (intro cs hcs; obtain rfl := List.mem_singleton.1 hcs; rfl) | (intro cs hcs; obtain ⟨_, _, rfl⟩ := List.mem_map.1 hcs; rfl) | simp)) (by rw [hF] at hbl; simp [byA_len]; omega) (by rw [hF] at hbl; simp [byA_len]; omega) ?_)
                  refine ADB.n ?_
                  refine ADB.r 17 rfl (rdP_iaddr_bx (i := 1) rfl ar_37 rfl rfl rfl (by first | rfl | omega) (by decide)) rfl ?_
                  refine ADB.move 18 rfl (by kernel_rfl) rfl (op_store rfl rfl rfl rfl rfl (by first | exact live_owM rfl | exact live_own rfl | exact live_nown rfl | rfl) sz_29 (Nat.le_of_ble_eq_true rfl) ?_)
                  refine ADB.n ?_
                  refine ADB.done (by kernel_rfl) ?_
                  exact ⟨rfl, rfl⟩
              · skip
                refine ⟨_, rfl, rfl, AOpB.op (ARd.opB (rd_load_bx rfl ag_29 rfl rfl rfl) ?_)⟩
                refine ADB.n ?_
                refine ADB.r 13 rfl (rdP_slice_sl rfl el_29 rfl byA_one rfl ⟨_, _, rfl, (Int.toNat_of_nonneg (by omega)).symm⟩ (by omega) (by simp only [byA_len]; simp only [DeedD.count, h26, Bool.false_eq_true, if_false] at hcn; exact hcn)) rfl ?_
                refine ADB.move 5 rfl (by kernel_rfl) rfl (AOpB.op (ARd.opB (rd_load_bx rfl ag_3 rfl rfl rfl) ?_))
                refine ADB.n ?_
                refine ADB.r 8 rfl (rdP_iaddr_bx (i := 1) rfl ar_37 rfl rfl rfl (by first | rfl | omega) (by decide)) rfl ?_
                refine ADB.move 9 rfl (by kernel_rfl) rfl (AOpB.op (ARd.opB (rd_load_bx rfl ag_29 rfl rfl rfl) ?_))
                refine ADB.n ?_
                refine ADB.move 14 rfl (by kernel_rfl) rfl (op_appendM rfl ap_29 rfl rfl (src_sl rfl (by first | exact csS_one | exact byA_one | (intro cs hcs; obtain rfl := List.mem_singleton.1 hcs; rfl) | (intro cs hcs; obtain ⟨_, _, rfl⟩ := List.mem_map.1 hcs; rfl) | simp)) (by rw [hF] at hbl; simp [byA_len]; omega) (by rw [hF] at hbl; simp [byA_len]; omega) ?_)
                refine ADB.n ?_
                refine ADB.r 17 rfl (rdP_iaddr_bx (i := 1) rfl ar_37 rfl rfl rfl (by first | rfl | omega) (by decide)) rfl ?_
                refine ADB.move 18 rfl (by kernel_rfl) rfl (op_store rfl rfl rfl rfl rfl (by first | exact live_owM rfl | exact live_own rfl | exact live_nown rfl | rfl) sz_29 (Nat.le_of_ble_eq_true rfl) ?_)
                refine ADB.n ?_
                refine ADB.done (by kernel_rfl) ?_
                exact ⟨rfl, rfl⟩
            · skip
              refine ⟨_, rfl, rfl, AOpB.op (ARd.opB (rd_load_bx rfl ag_3 rfl rfl rfl) ?_)⟩
              refine ADB.n ?_
              refine ADB.r 8 rfl (rdP_iaddr_bx (i := 1) rfl ar_37 rfl rfl rfl (by first | rfl | omega) (by decide)) rfl ?_
              refine ADB.all (is := [2, 9, 11]) (by kernel_rfl) (by simp) ?_
              intro i hi
              simp only [List.mem_cons, List.not_mem_nil, or_false] at hi
              rcases hi with rfl | rfl | rfl
              · skip
                refine ⟨_, rfl, rfl, AOpB.op (ARd.opB (rd_load_bx rfl ag_3 rfl rfl rfl) ?_)⟩
                refine ADB.n ?_
                refine ADB.all (is := [9, 11]) (by kernel_rfl) (by simp) ?_
                intro i hi
                simp only [List.mem_cons, List.not_mem_nil, or_false] at hi
                rcases hi with rfl | rfl
                · skip
                  refine ⟨_, rfl, rfl, AOpB.op (ARd.opB (rd_load_bx rfl ag_29 rfl rfl rfl) ?_)⟩
                  refine ADB.n ?_
                  refine ADB.move 11 rfl (by kernel_rfl) rfl (AOpB.op (ARd.opB (rd_load_bx rfl ag_29 rfl rfl rfl) ?_))
                  refine ADB.n ?_
                  refine ADB.r 13 rfl (rdP_slice_sl rfl el_29 rfl byA_one rfl ⟨_, _, rfl, (Int.toNat_of_nonneg (by omega)).symm⟩ (by omega) (by simp only [byA_len]; simp only [DeedD.count, h26, Bool.false_eq_true, if_false] at hcn; exact hcn)) rfl ?_
                  refine ADB.move 14 rfl (by kernel_rfl) rfl (op_appendM rfl ap_29 rfl rfl (src_sl rfl (by first | exact csS_one | exact byA_one | (intro cs hcs; obtain rfl := List.mem_singleton.1 hcs; rfl) | (intro cs hcs; obtain ⟨_, _, rfl⟩ := List.mem_map.1 hcs; rfl) | simp)) (by rw [hF] at hbl; simp [byA_len]; omega) (by rw [hF] at hbl; simp [byA_len]; omega) ?_)
                  refine ADB.n ?_
                  refine ADB.r 17 rfl (rdP_iaddr_bx (i := 1) rfl ar_37 rfl rfl rfl (by first | rfl | omega) (by decide)) rfl ?_
                  refine ADB.move 18 rfl (by kernel_rfl) rfl (op_store rfl rfl rfl rfl rfl (by first | exact live_owM rfl | exact live_own rfl | exact live_nown rfl | rfl) sz_29 (Nat.le_of_ble_eq_true rfl) ?_)
                  refine ADB.n ?_
                  refine ADB.done (by kernel_rfl) ?_
                  exact ⟨rfl, rfl⟩
                · skip
                  refine ⟨_, rfl, rfl, AOpB.op (ARd.opB (rd_load_bx rfl ag_29 rfl rfl rfl) ?_)⟩
                  refine ADB.n ?_
                  refine ADB.r 13 rfl (rdP_slice_sl rfl el_29 rfl byA_one rfl ⟨_, _, rfl, (Int.toNat_of_nonneg (by omega)).symm⟩ (by omega) (by simp only [byA_len]; simp only [DeedD.count, h26, Bool.false_eq_true, if_false] at hcn; exact hcn)) rfl ?_
                  refine ADB.move 9 rfl (by kernel_rfl) rfl (AOpB.op (ARd.opB (rd_load_bx rfl ag_29 rfl rfl rfl) ?_))
                  refine ADB.n ?_
                  refine ADB.move 14 rfl (by kernel_rfl) rfl (op_appendM rfl ap_29 rfl rfl (src_sl rfl (by first | exact csS_one | exact byA_one | (intro cs hcs; obtain rfl := List.mem_singleton.1 hcs; rfl) | (intro cs hcs; obtain ⟨_, _, rfl⟩ := List.mem_map.1 hcs; rfl) | simp)) (by rw [hF] at hbl; simp [byA_len]; omega) (by rw [hF] at hbl; simp [byA_len]; omega) ?_)
                  refine ADB.n ?_
                  refine ADB.r 17 rfl (rdP_iaddr_bx (i := 1) rfl ar_37 rfl rfl rfl (by first | rfl | omega) (by decide)) rfl ?_
                  refine ADB.move 18 rfl (by kernel_rfl) rfl (op_store rfl rfl rfl rfl rfl (by first | exact live_owM rfl | exact live_own rfl | exact live_nown rfl | rfl) sz_29 (Nat.le_of_ble_eq_true rfl) ?_)
                  refine ADB.n ?_
                  refine ADB.done (by kernel_rfl) ?_
                  exact ⟨rfl, rfl⟩
              · skip
                refine ⟨_, rfl, rfl, AOpB.op (ARd.opB (rd_load_bx rfl ag_29 rfl rfl rfl) ?_)⟩
                refine ADB.n ?_
                refine ADB.all (is := [2, 11]) (by kernel_rfl) (by simp) ?_
                intro i hi
                simp only [List.mem_cons, List.not_mem_nil, or_false] at hi
                rcases hi with rfl | rfl
                · skip
                  refine ⟨_, rfl, rfl, AOpB.op (ARd.opB (rd_load_bx rfl ag_3 rfl rfl rfl) ?_)⟩
                  refine ADB.n ?_
                  refine ADB.move 11 rfl (by kernel_rfl) rfl (AOpB.op (ARd.opB (rd_load_bx rfl ag_29 rfl rfl rfl) ?_))
                  refine ADB.n ?_
                  refine ADB.r 13 rfl (rdP_slice_sl rfl el_29 rfl byA_one rfl ⟨_, _, rfl, (Int.toNat_of_nonneg (by omega)).symm⟩ (by omega) (by simp only [byA_len]; simp only [DeedD.count, h26, Bool.false_eq_true, if_false] at hcn; exact hcn)) rfl ?_
                  refine ADB.move 14 rfl (by kernel_rfl) rfl (op_appendM rfl ap_29 rfl rfl (src_sl rfl (by first | exact csS_one | exact byA_one | (intro cs hcs; obtain rfl := List.mem_singleton.1 hcs; rfl) | (intro cs hcs; obtain ⟨_, _, rfl⟩ := List.mem_map.1 hcs; rfl) | simp)) (by rw [hF] at hbl; simp [byA_len]; omega) (by rw [hF] at hbl; simp [byA_len]; omega) ?_)
                  refine ADB.n ?_
                  refine ADB.r 17 rfl (rdP_iaddr_bx (i := 1) rfl ar_37 rfl rfl rfl (by first | rfl | omega) (by decide)) rfl ?_
                  refine ADB.move 18 rfl (by kernel_rfl) rfl (op_store rfl rfl rfl rfl rfl (by first | exact live_owM rfl | exact live_own rfl | exact live_nown rfl | rfl) sz_29 (Nat.le_of_ble_eq_true rfl) ?_)
                  refine ADB.n ?_
                  refine ADB.done (by kernel_rfl) ?_
                  exact ⟨rfl, rfl⟩
                · skip
                  refine ⟨_, rfl, rfl, AOpB.op (ARd.opB (rd_load_bx rfl ag_29 rfl rfl rfl) ?_)⟩
                  refine ADB.n ?_
                  refine ADB.r 13 rfl (rdP_slice_sl rfl el_29 rfl byA_one rfl ⟨_, _, rfl, (Int.toNat_of_nonneg (by omega)).symm⟩ (by omega) (by simp only [byA_len]; simp only [DeedD.count, h26, Bool.false_eq_true, if_false] at hcn; exact hcn)) rfl ?_
                  refine ADB.all (is := [2, 14]) (by kernel_rfl) (by simp) ?_
                  intro i hi
                  simp only [List.mem_cons, List.not_mem_nil, or_false] at hi
                  rcases hi with rfl | rfl
                  · skip
                    refine ⟨_, rfl, rfl, AOpB.op (ARd.opB (rd_load_bx rfl ag_3 rfl rfl rfl) ?_)⟩
                    refine ADB.n ?_
                    refine ADB.move 14 rfl (by kernel_rfl) rfl (op_appendM rfl ap_29 rfl rfl (src_sl rfl (by first | exact csS_one | exact byA_one | (intro cs hcs; obtain rfl := List.mem_singleton.1 hcs; rfl) | (intro cs hcs; obtain ⟨_, _, rfl⟩ := List.mem_map.1 hcs; rfl) | simp)) (by rw [hF] at hbl; simp [byA_len]; omega) (by rw [hF] at hbl; simp [byA_len]; omega) ?_)
                    refine ADB.n ?_
                    refine ADB.r 17 rfl (rdP_iaddr_bx (i := 1) rfl ar_37 rfl rfl rfl (by first | rfl | omega) (by decide)) rfl ?_
                    refine ADB.move 18 rfl (by kernel_rfl) rfl (op_store rfl rfl rfl rfl rfl (by first | exact live_owM rfl | exact live_own rfl | exact live_nown rfl | rfl) sz_29 (Nat.le_of_ble_eq_true rfl) ?_)
                    refine ADB.n ?_
                    refine ADB.done (by kernel_rfl) ?_
                    exact ⟨rfl, rfl⟩
                  · skip
                    refine ⟨_, rfl, rfl, op_appendM rfl ap_29 rfl rfl (src_sl rfl (by first | exact csS_one | exact byA_one | (intro cs hcs; obtain rfl := List.mem_singleton.1 hcs; rfl) | (intro cs hcs; obtain ⟨_, _, rfl⟩ := List.mem_map.1 hcs; rfl) | simp)) (by rw [hF] at hbl; simp [byA_len]; omega) (by rw [hF] at hbl; simp [byA_len]; omega) ?_⟩
                    refine ADB.n ?_
                    refine ADB.move 2 rfl (by kernel_rfl) rfl (AOpB.op (ARd.opB (rd_load_bx rfl ag_3 rfl rfl rfl) ?_))
                    refine ADB.n ?_
                    refine ADB.r 17 rfl (rdP_iaddr_bx (i := 1) rfl ar_37 rfl rfl rfl (by first | rfl | omega) (by decide)) rfl ?_
                    refine ADB.move 18 rfl (by kernel_rfl) rfl (op_store rfl rfl rfl rfl rfl (by first | exact live_owM rfl | exact live_own rfl | exact live_nown rfl | rfl) sz_29 (Nat.le_of_ble_eq_true rfl) ?_)
                    refine ADB.n ?_
                    refine ADB.done (by kernel_rfl) ?_
                    exact ⟨rfl, rfl⟩
              · skip
                refine ⟨_, rfl, rfl, AOpB.op (ARd.opB (rd_load_bx rfl ag_29 rfl rfl rfl) ?_)⟩
                refine ADB.n ?_
                refine ADB.r 13 rfl (rdP_slice_sl rfl el_29 rfl byA_one rfl ⟨_, _, rfl, (Int.toNat_of_nonneg (by omega)).symm⟩ (by omega) (by simp only [byA_len]; simp only [DeedD.count, h26, Bool.false_eq_true, if_false] at hcn; exact hcn)) rfl ?_
                refine ADB.all (is := [2, 9]) (by kernel_rfl) (by simp) ?_
                intro i hi
                simp only [List.mem_cons, List.not_mem_nil, or_false] at hi
                rcases hi with rfl | rfl
                · skip
                  refine ⟨_, rfl, rfl, AOpB.op (ARd.opB (rd_load_bx rfl ag_3 rfl rfl rfl) ?_)⟩
                  refine ADB.n ?_
                  refine ADB.move 9 rfl (by kernel_rfl) rfl (AOpB.op (ARd.opB (rd_load_bx rfl ag_29 rfl rfl rfl) ?_))
                  refine ADB.n ?_
                  refine ADB.move 14 rfl (by kernel_rfl) rfl (op_appendM rfl ap_29 rfl rfl (src_sl rfl (by first | exact csS_one | exact byA_one | (intro cs hcs; obtain rfl := List.mem_singleton.1 hcs; rfl) | (intro cs hcs; obtain ⟨_, _, rfl⟩ := List.mem_map.1 hcs; rfl) | simp)) (by rw [hF] at hbl; simp [byA_len]; omega) (by rw [hF] at hbl; simp [byA_len]; omega) ?_)
                  refine ADB.n ?_
                  refine ADB.r 17 rfl (rdP_iaddr_bx (i := 1) rfl ar_37 rfl rfl rfl (by first | rfl | omega) (by decide)) rfl ?_
                  refine ADB.move 18 rfl (by kernel_rfl) rfl (op_store rfl rfl rfl rfl rfl (by first | exact live_owM rfl | exact live_own rfl | exact live_nown rfl | rfl) sz_29 (Nat.le_of_ble_eq_true rfl) ?_)
                  refine ADB.n ?_
                  refine ADB.done (by kernel_rfl) ?_
                  exact ⟨rfl, rfl⟩
                · skip
                  refine ⟨_, rfl, rfl, AOpB.op (ARd.opB (rd_load_bx rfl ag_29 rfl rfl rfl) ?_)⟩
                  refine ADB.n ?_
                  refine ADB.all (is := [2, 14]) (by kernel_rfl) (by simp) ?_
                  intro i hi
                  simp only [List.mem_cons, List.not_mem_nil, or_false] at hi
                  rcases hi with rfl | rfl
                  · skip
                    refine ⟨_, rfl, rfl, AOpB.op (ARd.opB (rd_load_bx rfl ag_3 rfl rfl rfl) ?_)⟩
                    refine ADB.n ?_
                    refine ADB.move 14 rfl (by kernel_rfl) rfl (op_appendM rfl ap_29 rfl rfl (src_sl rfl (by first | exact csS_one | exact byA_one | (intro cs hcs; obtain rfl := List.mem_singleton.1 hcs; rfl) | (intro cs hcs; obtain ⟨_, _, rfl⟩ := List.mem_map.1 hcs; rfl) | simp)) (by rw [hF] at hbl; simp [byA_len]; omega) (by rw [hF] at hbl; simp [byA_len]; omega) ?_)
                    refine ADB.n ?_
                    refine ADB.r 17 rfl (rdP_iaddr_bx (i := 1) rfl ar_37 rfl rfl rfl (by first | rfl | omega) (by decide)) rfl ?_
                    refine ADB.move 18 rfl (by kernel_rfl) rfl (op_store rfl rfl rfl rfl rfl (by first | exact live_owM rfl | exact live_own rfl | exact live_nown rfl | rfl) sz_29 (Nat.le_of_ble_eq_true rfl) ?_)
                    refine ADB.n ?_
                    refine ADB.done (by kernel_rfl) ?_
                    exact ⟨rfl, rfl⟩
                  · skip
                    refine ⟨_, rfl, rfl, op_appendM rfl ap_29 rfl rfl (src_sl rfl (by first | exact csS_one | exact byA_one | (intro cs hcs; obtain rfl := List.mem_singleton.1 hcs; rfl) | (intro cs hcs; obtain ⟨_, _, rfl⟩ := List.mem_map.1 hcs; rfl) | simp)) (by rw [hF] at hbl; simp [byA_len]; omega) (by rw [hF] at hbl; simp [byA_len]; omega) ?_⟩
                    refine ADB.n ?_
                    refine ADB.move 2 rfl (by kernel_rfl) rfl (AOpB.op (ARd.opB (rd_load_bx rfl ag_3 rfl rfl rfl) ?_))
                    refine ADB.n ?_
                    refine ADB.r 17 rfl (rdP_iaddr_bx (i := 1) rfl ar_37 rfl rfl rfl (by first | rfl | omega) (by decide)) rfl ?_
                    refine ADB.move 18 rfl (by kernel_rfl) rfl (op_store rfl rfl rfl rfl rfl (by first | exact live_owM rfl | exact live_own rfl | exact live_nown rfl | rfl) sz_29 (Nat.le_of_ble_eq_true rfl) ?_)
                    refine ADB.n ?_
                    refine ADB.done (by kernel_rfl) ?_
                    exact ⟨rfl, rfl⟩
            · skip
              refine ⟨_, rfl, rfl, AOpB.op (ARd.opB (rd_load_bx rfl ag_29 rfl rfl rfl) ?_)⟩
              refine ADB.n ?_
              refine ADB.r 13 rfl (rdP_slice_sl rfl el_29 rfl byA_one rfl ⟨_, _, rfl, (Int.toNat_of_nonneg (by omega)).symm⟩ (by omega) (by simp only [byA_len]; simp only [DeedD.count, h26, Bool.false_eq_true, if_false] at hcn; exact hcn)) rfl ?_
              refine ADB.all (is := [2, 5]) (by kernel_rfl) (by simp) ?_
              intro i hi
              simp only [List.mem_cons, List.not_mem_nil, or_false] at hi
              rcases hi with rfl | rfl
              · skip
                refine ⟨_, rfl, rfl, AOpB.op (ARd.opB (rd_load_bx rfl ag_3 rfl rfl rfl) ?_)⟩
                refine ADB.n ?_
                refine ADB.move 5 rfl (by kernel_rfl) rfl (AOpB.op (ARd.opB (rd_load_bx rfl ag_3 rfl rfl rfl) ?_))
                refine ADB.n ?_
                refine ADB.r 8 rfl (rdP_iaddr_bx (i := 1) rfl ar_37 rfl rfl rfl (by first | rfl | omega) (by decide)) rfl ?_
                refine ADB.move 9 rfl (by kernel_rfl) rfl (AOpB.op (ARd.opB (rd_load_bx rfl ag_29 rfl rfl rfl) ?_))
                refine ADB.n ?_
                refine ADB.move 14 rfl (by kernel_rfl) rfl (op_appendM rfl ap_29 rfl rfl (src_sl rfl (by first | exact csS_one | exact byA_one | (intro cs hcs; obtain rfl := List.mem_singleton.1 hcs; rfl) | (intro cs hcs; obtain ⟨_, _, rfl⟩ := List.mem_map.1 hcs; rfl) | simp)) (by rw [hF] at hbl; simp [byA_len]; omega) (by rw [hF] at hbl; simp [byA_len]; omega) ?_)
                refine ADB.n ?_
                refine ADB.r 17 rfl (rdP_iaddr_bx (i := 1) rfl ar_37 rfl rfl rfl (by first | rfl | omega) (by decide)) rfl ?_
                refine ADB.move 18 rfl (by kernel_rfl) rfl (op_store rfl rfl rfl rfl rfl (by first | exact live_owM rfl | exact live_own rfl | exact live_nown rfl | rfl) sz_29 (Nat.le_of_ble_eq_true rfl) ?_)
                refine ADB.n ?_
                refine ADB.done (by kernel_rfl) ?_
                exact ⟨rfl, rfl⟩
              · skip
                refine ⟨_, rfl, rfl, AOpB.op (ARd.opB (rd_load_bx rfl ag_3 rfl rfl rfl) ?_)⟩
                refine ADB.n ?_
                refine ADB.r 8 rfl (rdP_iaddr_bx (i := 1) rfl ar_37 rfl rfl rfl (by first | rfl | omega) (by decide)) rfl ?_
                refine ADB.all (is := [2, 9]) (by kernel_rfl) (by simp) ?_
                intro i hi
                simp only [List.mem_cons, List.not_mem_nil, or_false] at hi
                rcases hi with rfl | rfl
                · skip
                  refine ⟨_, rfl, rfl, AOpB.op (ARd.opB (rd_load_bx rfl ag_3 rfl rfl rfl) ?_)⟩
                  refine ADB.n ?_
                  refine ADB.move 9 rfl (by kernel_rfl) rfl (AOpB.op (ARd.opB (rd_load_bx rfl ag_29 rfl rfl rfl) ?_))
                  refine ADB.n ?_
                  refine ADB.move 14 rfl (by kernel_rfl) rfl (op_appendM rfl ap_29 rfl rfl (src_sl rfl (by first | exact csS_one | exact byA_one | (intro cs hcs; obtain rfl := List.mem_singleton.1 hcs; rfl) | (intro cs hcs; obtain ⟨_, _, rfl⟩ := List.mem_map.1 hcs; rfl) | simp)) (by rw [hF] at hbl; simp [byA_len]; omega) (by rw [hF] at hbl; simp [byA_len]; omega) ?_)
                  refine ADB.n ?_
                  refine ADB.r 17 rfl (rdP_iaddr_bx (i := 1) rfl ar_37 rfl rfl rfl (by first | rfl | omega) (by decide)) rfl ?_
                  refine ADB.move 18 rfl (by kernel_rfl) rfl (op_store rfl rfl rfl rfl rfl (by first | exact live_owM rfl | exact live_own rfl | exact live_nown rfl | rfl) sz_29 (Nat.le_of_ble_eq_true rfl) ?_)
                  refine ADB.n ?_
                  refine ADB.done (by kernel_rfl) ?_
                  exact ⟨rfl, rfl⟩
                · skip
                  refine ⟨_, rfl, rfl, AOpB.op (ARd.opB (rd_load_bx rfl ag_29 rfl rfl rfl) ?_)⟩
                  refine ADB.n ?_
                  refine ADB.all (is := [2, 14]) (by kernel_rfl) (by simp) ?_
                  intro i hi
                  simp only [List.mem_cons, List.not_mem_nil, or_false] at hi
                  rcases hi with rfl | rfl
                  · skip
                    refine ⟨_, rfl, rfl, AOpB.op (ARd.opB (rd_load_bx rfl ag_3 rfl rfl rfl) ?_)⟩
                    refine ADB.n ?_
                    refine ADB.move 14 rfl (by kernel_rfl) rfl (op_appendM rfl ap_29 rfl rfl (src_sl rfl (by first | exact csS_one | exact byA_one | (intro cs hcs; obtain rfl := List.mem_singleton.1 hcs; rfl) | (intro cs hcs; obtain ⟨_, _, rfl⟩ := List.mem_map.1 hcs; rfl) | simp)) (by rw [hF] at hbl; simp [byA_len]; omega) (by rw [hF] at hbl; simp [byA_len]; omega) ?_)
                    refine ADB.n ?_
                    refine ADB.r 17 rfl (rdP_iaddr_bx (i := 1) rfl ar_37 rfl rfl rfl (by first | rfl | omega) (by decide)) rfl ?_
                    refine ADB.move 18 rfl (by kernel_rfl) rfl (op_store rfl rfl rfl rfl rfl (by first | exact live_owM rfl | exact live_own rfl | exact live_nown rfl | rfl) sz_29 (Nat.le_of_ble_eq_true rfl) ?_)
                    refine ADB.n ?_
                    refine ADB.done (by kernel_rfl) ?_
                    exact ⟨rfl, rfl⟩
                  · skip
                    refine ⟨_, rfl, rfl, op_appendM rfl ap_29 rfl rfl (src_sl rfl (by first | exact csS_one | exact byA_one | (intro cs hcs; obtain rfl := List.mem_singleton.1 hcs; rfl) | (intro cs hcs; obtain ⟨_, _, rfl⟩ := List.mem_map.1 hcs; rfl) | simp)) (by rw [hF] at hbl; simp [byA_len]; omega) (by rw [hF] at hbl; simp [byA_len]; omega) ?_⟩
                    refine ADB.n ?_
                    refine ADB.move 2 rfl (by kernel_rfl) rfl (AOpB.op (ARd.opB (rd_load_bx rfl ag_3 rfl rfl rfl) ?_))
                    refine ADB.n ?_
                    refine ADB.r 17 rfl (rdP_iaddr_bx (i := 1) rfl ar_37 rfl rfl rfl (by first | rfl | omega) (by decide)) rfl ?_
                    refine ADB.move 18 rfl (by kernel_rfl) rfl (op_store rfl rfl rfl rfl rfl (by first | exact live_owM rfl | exact live_own rfl | exact live_nown rfl | rfl) sz_29 (Nat.le_of_ble_eq_true rfl) ?_)
                    refine ADB.n ?_
                    refine ADB.done (by kernel_rfl) ?_
                    exact ⟨rfl, rfl⟩
          skip
          change AW _ _ _ _ _
          refine AW.region ?_
          refine AL.r (rd_arith_add rfl rfl rfl (by first | exact IntWalk.i64_in _ (by omega) | rfl)) ?_
          refine AL.r (rd_move rfl rfl) ?_
          refine AL.nil ?_
          refine ⟨⟨j + 1, kp - cntN d.q[j] kp, stepL d.q[j] (cntN d.q[j] kp).toNat s, a5, a6 + 1, a7, a8⟩, ?_, by first | omega | (simp only []; omega), ?_, ?_⟩
          · exact hJ.next hjl h0
          · simp only [anys, upds, offs, List.set_cons_zero, List.set_cons_succ]; repeat (first | exact Wk.nil | refine Wk.same ?_ | refine Wk.any ?_)
          · simp only [anys, upds, offs, List.set_cons_zero, List.set_cons_succ]; repeat (first | exact Sk.nil _ | refine Sk.same _ ?_ | refine Sk.scr _ (by decide) ?_ | refine Sk.eq _ (by simp [stepL, upd, hF, h26]) ?_)
        · skip
          apply AW.drawS (by kernel_rfl)
          · skip
            refine ADA.r 0 rfl (ARdP.a (rdP_move rfl rfl)) rfl ?_
            refine ADA.r 1 rfl (ARdP.a (rdP_faddr_bx rfl fo_102_0 rfl rfl ⟨_, _, rfl⟩)) rfl ?_
            refine ADA.r 3 rfl (ARdP.a (rdP_move rfl rfl)) rfl ?_
            refine ADA.r 4 rfl (ARdP.a (rdP_faddr_bx rfl fo_102_0 rfl rfl ⟨_, _, rfl⟩)) rfl ?_
            refine ADA.r 6 rfl (ARdP.a (rdP_nilc_bx rfl rfl rfl)) rfl ?_
            refine ADA.r 7 rfl (ARdP.a (rdP_faddr_bx rfl fo_99_2 rfl rfl ⟨_, _, rfl⟩)) rfl ?_
            refine ADA.r 10 rfl (ARdP.a (rdP_faddr_bx rfl fo_102_3 rfl rfl ⟨_, _, rfl⟩)) rfl ?_
            refine ADA.r 12 rfl (ARdP.a (rdP_move rfl rfl)) rfl ?_
            refine ADA.r 15 rfl (ARdP.a (rdP_nilc_bx rfl rfl rfl)) rfl ?_
            refine ADA.r 16 rfl (ARdP.a (rdP_faddr_bx rfl fo_99_2 rfl rfl ⟨_, _, rfl⟩)) rfl ?_
            refine ADA.b ?_
            refine ADB.all (is := [2, 5, 11]) (by kernel_rfl) (by simp) ?_
            intro i hi
            simp only [List.mem_cons, List.not_mem_nil, or_false] at hi
            rcases hi with rfl | rfl | rfl
            · skip
              refine ⟨_, rfl, rfl, AOpB.op (ARd.opB (rd_load_bx rfl ag_3 rfl rfl rfl) ?_)⟩
              refine ADB.n ?_
              refine ADB.all (is := [5, 11]) (by kernel_rfl) (by simp) ?_
              intro i hi
              simp only [List.mem_cons, List.not_mem_nil, or_false] at hi
              rcases hi with rfl | rfl
              · skip
                refine ⟨_, rfl, rfl, AOpB.op (ARd.opB (rd_load_bx rfl ag_3 rfl rfl rfl) ?_)⟩
                refine ADB.n ?_
                refine ADB.r 8 rfl (rdP_iaddr_bx (i := 2) rfl ar_37 rfl rfl rfl (by first | rfl | omega) (by decide)) rfl ?_
                refine ADB.all (is := [9, 11]) (by kernel_rfl) (by simp) ?_
                intro i hi
                simp only [List.mem_cons, List.not_mem_nil, or_false] at hi
                rcases hi with rfl | rfl
                · skip
                  refine ⟨_, rfl, rfl, AOpB.op (ARd.opB (rd_load_bx rfl ag_29 rfl rfl rfl) ?_)⟩
                  refine ADB.n ?_
                  refine ADB.move 11 rfl (by kernel_rfl) rfl (AOpB.op (ARd.opB (rd_load_bx rfl ag_29 rfl rfl rfl) ?_))
                  refine ADB.n ?_
                  refine ADB.r 13 rfl (rdP_slice_sl rfl el_29 rfl byA_one rfl ⟨_, _, rfl, (Int.toNat_of_nonneg (by omega)).symm⟩ (by omega) (by simp only [byA_len]; simp only [DeedD.count, h26, Bool.false_eq_true, if_false] at hcn; exact hcn)) rfl ?_
                  refine ADB.move 14 rfl (by kernel_rfl) rfl (op_appendM rfl ap_29 rfl rfl (src_sl rfl (by first | exact csS_one | exact byA_one | (intro cs hcs; obtain rfl := List.mem_singleton.1 hcs; rfl) | (intro cs hcs; obtain ⟨_, _, rfl⟩ := List.mem_map.1 hcs; rfl) | simp)) (by rw [hF] at hbl; simp [byA_len]; omega) (by rw [hF] at hbl; simp [byA_len]; omega) ?_)
                  refine ADB.n ?_
                  refine ADB.r 17 rfl (rdP_iaddr_bx (i := 2) rfl ar_37 rfl rfl rfl (by first | rfl | omega) (by decide)) rfl ?_
                  refine ADB.move 18 rfl (by kernel_rfl) rfl (op_store rfl rfl rfl rfl rfl (by first | exact live_owM rfl | exact live_own rfl | exact live_nown rfl | rfl) sz_29 (Nat.le_of_ble_eq_true rfl) ?_)
                  refine ADB.n ?_
                  refine ADB.done (by kernel_rfl) ?_
                  exact ⟨rfl, rfl⟩
                · skip
                  refine ⟨_, rfl, rfl, AOpB.op (ARd.opB (rd_load_bx rfl ag_29 rfl rfl rfl) ?_)⟩
                  refine ADB.n ?_
                  refine ADB.r 13 rfl (rdP_slice_sl rfl el_29 rfl byA_one rfl ⟨_, _, rfl, (Int.toNat_of_nonneg (by omega)).symm⟩ (by omega) (by simp only [byA_len]; simp only [DeedD.count, h26, Bool.false_eq_true, if_false] at hcn; exact hcn)) rfl ?_
                  refine ADB.move 9 rfl (by kernel_rfl) rfl (AOpB.op (ARd.opB (rd_load_bx rfl ag_29 rfl rfl rfl) ?_))
                  refine ADB.n ?_
                  refine ADB.move 14 rfl (by kernel_rfl) rfl (op_appendM rfl ap_29 rfl rfl (src_sl rfl (by first | exact csS_one | exact byA_one | (intro cs hcs; obtain rfl := List.mem_singleton.1 hcs; rfl) | (intro cs hcs; obtain ⟨_, _, rfl⟩ := List.mem_map.1 hcs; rfl) | simp)) (by rw [hF] at hbl; simp [byA_len]; omega) (by rw [hF] at hbl; simp [byA_len]; omega) ?_)
                  refine ADB.n ?_
                  refine ADB.r 17 rfl (rdP_iaddr_bx (i := 2) rfl ar_37 rfl rfl rfl (by first | rfl | omega) (by decide)) rfl ?_
                  refine ADB.move 18 rfl (by kernel_rfl) rfl (op_store rfl rfl rfl rfl rfl (by first | exact live_owM rfl | exact live_own rfl | exact live_nown rfl | rfl) sz_29 (Nat.le_of_ble_eq_true rfl) ?_)
                  refine ADB.n ?_
                  refine ADB.done (by kernel_rfl) ?_
                  exact ⟨rfl, rfl⟩
              · skip
                refine ⟨_, rfl, rfl, AOpB.op (ARd.opB (rd_load_bx rfl ag_29 rfl rfl rfl) ?_)⟩
                refine ADB.n ?_
                refine ADB.r 13 rfl (rdP_slice_sl rfl el_29 rfl byA_one rfl ⟨_, _, rfl, (Int.toNat_of_nonneg (by omega)).symm⟩ (by omega) (by simp only [byA_len]; simp only [DeedD.count, h26, Bool.false_eq_true, if_false] at hcn; exact hcn)) rfl ?_
                refine ADB.move 5 rfl (by kernel_rfl) rfl (AOpB.op (ARd.opB (rd_load_bx rfl ag_3 rfl rfl rfl) ?_))
                refine ADB.n ?_
                refine ADB.r 8 rfl (rdP_iaddr_bx (i := 2) rfl ar_37 rfl rfl rfl (by first | rfl | omega) (by decide)) rfl ?_
                refine ADB.move 9 rfl (by kernel_rfl) rfl (AOpB.op (ARd.opB (rd_load_bx rfl ag_29 rfl rfl rfl) ?_))
                refine ADB.n ?_
                refine ADB.move 14 rfl (by kernel_rfl) rfl (op_appendM rfl ap_29 rfl rfl (src_sl rfl (by first | exact csS_one | exact byA_one | (intro cs hcs; obtain rfl := List.mem_singleton.1 hcs; rfl) | (intro cs hcs; obtain ⟨_, _, rfl⟩ := List.mem_map.1 hcs; rfl) | simp)) (by rw [hF] at hbl; simp [byA_len]; omega) (by rw [hF] at hbl; simp [byA_len]; omega) ?_)
                refine ADB.n ?_
                refine ADB.r 17 rfl (rdP_iaddr_bx (i := 2) rfl ar_37 rfl rfl rfl (by first | rfl | omega) (by decide)) rfl ?_
                refine ADB.move 18 rfl (by kernel_rfl) rfl (op_store rfl rfl rfl rfl rfl (by first | exact live_owM rfl | exact live_own rfl | exact live_nown rfl | rfl) sz_29 (Nat.le_of_ble_eq_true rfl) ?_)
                refine ADB.n ?_
                refine ADB.done (by kernel_rfl) ?_
                exact ⟨rfl, rfl⟩
            · skip
              refine ⟨_, rfl, rfl, AOpB.op (ARd.opB (rd_load_bx rfl ag_3 rfl rfl rfl) ?_)⟩
              refine ADB.n ?_
              refine ADB.r 8 rfl (rdP_iaddr_bx (i := 2) rfl ar_37 rfl rfl rfl (by first | rfl | omega) (by decide)) rfl ?_
              refine ADB.all (is := [2, 9, 11]) (by kernel_rfl) (by simp) ?_
              intro i hi
              simp only [List.mem_cons, List.not_mem_nil, or_false] at hi
              rcases hi with rfl | rfl | rfl
              · skip
                refine ⟨_, rfl, rfl, AOpB.op (ARd.opB (rd_load_bx rfl ag_3 rfl rfl rfl) ?_)⟩
                refine ADB.n ?_
                refine ADB.all (is := [9, 11]) (by kernel_rfl) (by simp) ?_
                intro i hi
                simp only [List.mem_cons, List.not_mem_nil, or_false] at hi
                rcases hi with rfl | rfl
                · skip
                  refine ⟨_, rfl, rfl, AOpB.op (ARd.opB (rd_load_bx rfl ag_29 rfl rfl rfl) ?_)⟩
                  refine ADB.n ?_
                  refine ADB.move 11 rfl (by kernel_rfl) rfl (AOpB.op (ARd.opB (rd_load_bx rfl ag_29 rfl rfl rfl) ?_))
                  refine ADB.n ?_
                  refine ADB.r 13 rfl (rdP_slice_sl rfl el_29 rfl byA_one rfl ⟨_, _, rfl, (Int.toNat_of_nonneg (by omega)).symm⟩ (by omega) (by simp only [byA_len]; simp only [DeedD.count, h26, Bool.false_eq_true, if_false] at hcn; exact hcn)) rfl ?_
                  refine ADB.move 14 rfl (by kernel_rfl) rfl (op_appendM rfl ap_29 rfl rfl (src_sl rfl (by first | exact csS_one | exact byA_one | (intro cs hcs; obtain rfl := List.mem_singleton.1 hcs; rfl) | (intro cs hcs; obtain ⟨_, _, rfl⟩ := List.mem_map.1 hcs; rfl) | simp)) (by rw [hF] at hbl; simp [byA_len]; omega) (by rw [hF] at hbl; simp [byA_len]; omega) ?_)
                  refine ADB.n ?_
                  refine ADB.r 17 rfl (rdP_iaddr_bx (i := 2) rfl ar_37 rfl rfl rfl (by first | rfl | omega) (by decide)) rfl ?_
                  refine ADB.move 18 rfl (by kernel_rfl) rfl (op_store rfl rfl rfl rfl rfl (by first | exact live_owM rfl | exact live_own rfl | exact live_nown rfl | rfl) sz_29 (Nat.le_of_ble_eq_true rfl) ?_)
                  refine ADB.n ?_
                  refine ADB.done (by kernel_rfl) ?_
                  exact ⟨rfl, rfl⟩
                · skip
                  refine ⟨_, rfl, rfl, AOpB.op (ARd.opB (rd_load_bx rfl ag_29 rfl rfl rfl) ?_)⟩
                  refine ADB.n ?_
                  refine ADB.r 13 rfl (rdP_slice_sl rfl el_29 rfl byA_one rfl ⟨_, _, rfl, (Int.toNat_of_nonneg (by omega)).symm⟩ (by omega) (by simp only [byA_len]; simp only [DeedD.count, h26, Bool.false_eq_true, if_false] at hcn; exact hcn)) rfl ?_
                  refine ADB.move 9 rfl (by kernel_rfl) rfl (AOpB.op (ARd.opB (rd_load_bx rfl ag_29 rfl rfl rfl) ?_))
                  refine ADB.n ?_
                  refine ADB.move 14 rfl (by kernel_rfl) rfl (op_appendM rfl ap_29 rfl rfl (src_sl rfl (by first | exact csS_one | exact byA_one | (intro cs hcs; obtain rfl := List.mem_singleton.1 hcs; rfl) | (intro cs hcs; obtain ⟨_, _, rfl⟩ := List.mem_map.1 hcs; rfl) | simp)) (by rw [hF] at hbl; simp [byA_len]; omega) (by rw [hF] at hbl; simp [byA_len]; omega) ?_)
                  refine ADB.n ?_
                  refine ADB.r 17 rfl (rdP_iaddr_bx (i := 2) rfl ar_37 rfl rfl rfl (by first | rfl | omega) (by decide)) rfl ?_
                  refine ADB.move 18 rfl (by kernel_rfl) rfl (op_store rfl rfl rfl rfl rfl (by first | exact live_owM rfl | exact live_own rfl | exact live_nown rfl | rfl) sz_29 (Nat.le_of_ble_eq_true rfl) ?_)
                  refine ADB.n ?_
                  refine ADB.done (by kernel_rfl) ?_
                  exact ⟨rfl, rfl⟩
              · skip
                refine ⟨_, rfl, rfl, AOpB.op (ARd.opB (rd_load_bx rfl ag_29 rfl rfl rfl) ?_)⟩
                refine ADB.n ?_
                refine ADB.all (is := [2, 11]) (by kernel_rfl) (by simp) ?_
                intro i hi
                simp only [List.mem_cons, List.not_mem_nil, or_false] at hi
                rcases hi with rfl | rfl
                · skip
                  refine ⟨_, rfl, rfl, AOpB.op (ARd.opB (rd_load_bx rfl ag_3 rfl rfl rfl) ?_)⟩
                  refine ADB.n ?_
                  refine ADB.move 11 rfl (by kernel_rfl) rfl (AOpB.op (ARd.opB (rd_load_bx rfl ag_29 rfl rfl rfl) ?_))
                  refine ADB.n ?_
                  refine ADB.r 13 rfl (rdP_slice_sl rfl el_29 rfl byA_one rfl ⟨_, _, rfl, (Int.toNat_of_nonneg (by omega)).symm⟩ (by omega) (by simp only [byA_len]; simp only [DeedD.count, h26, Bool.false_eq_true, if_false] at hcn; exact hcn)) rfl ?_
                  refine ADB.move 14 rfl (by kernel_rfl) rfl (op_appendM rfl ap_29 rfl rfl (src_sl rfl (by first | exact csS_one | exact byA_one | (intro cs hcs; obtain rfl := List.mem_singleton.1 hcs; rfl) | (intro cs hcs; obtain ⟨_, _, rfl⟩ := List.mem_map.1 hcs; rfl) | simp)) (by rw [hF] at hbl; simp [byA_len]; omega) (by rw [hF] at hbl; simp [byA_len]; omega) ?_)
                  refine ADB.n ?_
                  refine ADB.r 17 rfl (rdP_iaddr_bx (i := 2) rfl ar_37 rfl rfl rfl (by first | rfl | omega) (by decide)) rfl ?_
                  refine ADB.move 18 rfl (by kernel_rfl) rfl (op_store rfl rfl rfl rfl rfl (by first | exact live_owM rfl | exact live_own rfl | exact live_nown rfl | rfl) sz_29 (Nat.le_of_ble_eq_true rfl) ?_)
                  refine ADB.n ?_
                  refine ADB.done (by kernel_rfl) ?_
                  exact ⟨rfl, rfl⟩
                · skip
                  refine ⟨_, rfl, rfl, AOpB.op (ARd.opB (rd_load_bx rfl ag_29 rfl rfl rfl) ?_)⟩
                  refine ADB.n ?_
                  refine ADB.r 13 rfl (rdP_slice_sl rfl el_29 rfl byA_one rfl ⟨_, _, rfl, (Int.toNat_of_nonneg (by omega)).symm⟩ (by omega) (by simp only [byA_len]; simp only [DeedD.count, h26, Bool.false_eq_true, if_false] at hcn; exact hcn)) rfl ?_
                  refine ADB.all (is := [2, 14]) (by kernel_rfl) (by simp) ?_
                  intro i hi
                  simp only [List.mem_cons, List.not_mem_nil, or_false] at hi
                  rcases hi with rfl | rfl
                  · skip
                    refine ⟨_, rfl, rfl, AOpB.op (ARd.opB (rd_load_bx rfl ag_3 rfl rfl rfl) ?_)⟩
                    refine ADB.n ?_
                    refine ADB.move 14 rfl (by kernel_rfl) rfl (op_appendM rfl ap_29 rfl rfl (src_sl rfl (by first | exact csS_one | exact byA_one | (intro cs hcs; obtain rfl := List.mem_singleton.1 hcs; rfl) | (intro cs hcs; obtain ⟨_, _, rfl⟩ := List.mem_map.1 hcs; rfl) | simp)) (by rw [hF] at hbl; simp [byA_len]; omega) (by rw [hF] at hbl; simp [byA_len]; omega) ?_)
                    refine ADB.n ?_
                    refine ADB.r 17 rfl (rdP_iaddr_bx (i := 2) rfl ar_37 rfl rfl rfl (by first | rfl | omega) (by decide)) rfl ?_
                    refine ADB.move 18 rfl (by kernel_rfl) rfl (op_store rfl rfl rfl rfl rfl (by first | exact live_owM rfl | exact live_own rfl | exact live_nown rfl | rfl) sz_29 (Nat.le_of_ble_eq_true rfl) ?_)
                    refine ADB.n ?_
                    refine ADB.done (by kernel_rfl) ?_
                    exact ⟨rfl, rfl⟩
                  · skip
                    refine ⟨_, rfl, rfl, op_appendM rfl ap_29 rfl rfl (src_sl rfl (by first | exact csS_one | exact byA_one | (intro cs hcs; obtain rfl := List.mem_singleton.1 hcs; rfl) | (intro cs hcs; obtain ⟨_, _, rfl⟩ := List.mem_map.1 hcs; rfl) | simp)) (by rw [hF] at hbl; simp [byA_len]; omega) (by rw [hF] at hbl; simp [byA_len]; omega) ?_⟩
                    refine ADB.n ?_
                    refine ADB.move 2 rfl (by kernel_rfl) rfl (AOpB.op (ARd.opB (rd_load_bx rfl ag_3 rfl rfl rfl) ?_))
                    refine ADB.n ?_
                    refine ADB.r 17 rfl (rdP_iaddr_bx (i := 2) rfl ar_37 rfl rfl rfl (by first | rfl | omega) (by decide)) rfl ?_
                    refine ADB.move 18 rfl (by kernel_rfl) rfl (op_store rfl rfl rfl rfl rfl (by first | exact live_owM rfl | exact live_own rfl | exact live_nown rfl | rfl) sz_29 (Nat.le_of_ble_eq_true rfl) ?_)
                    refine ADB.n ?_
                    refine ADB.done (by kernel_rfl) ?_
                    exact ⟨rfl, rfl⟩
              · skip
                refine ⟨_, rfl, rfl, AOpB.op (ARd.opB (rd_load_bx rfl ag_29 rfl rfl rfl) ?_)⟩
                refine ADB.n ?_
                refine ADB.r 13 rfl (rdP_slice_sl rfl el_29 rfl byA_one rfl ⟨_, _, rfl, (Int.toNat_of_nonneg (by omega)).symm⟩ (by omega) (by simp only [byA_len]; simp only [DeedD.count, h26, Bool.false_eq_true, if_false] at hcn; exact hcn)) rfl ?_
                refine ADB.all (is := [2, 9]) (by kernel_rfl) (by simp) ?_
                intro i hi
                simp only [List.mem_cons, List.not_mem_nil, or_false] at hi
                rcases hi with rfl | rfl
                · skip
                  refine ⟨_, rfl, rfl, AOpB.op (ARd.opB (rd_load_bx rfl ag_3 rfl rfl rfl) ?_)⟩
                  refine ADB.n ?_
                  refine ADB.move 9 rfl (by kernel_rfl) rfl (AOpB.op (ARd.opB (rd_load_bx rfl ag_29 rfl rfl rfl) ?_))
                  refine ADB.n ?_
                  refine ADB.move 14 rfl (by kernel_rfl) rfl (op_appendM rfl ap_29 rfl rfl (src_sl rfl (by first | exact csS_one | exact byA_one | (intro cs hcs; obtain rfl := List.mem_singleton.1 hcs; rfl) | (intro cs hcs; obtain ⟨_, _, rfl⟩ := List.mem_map.1 hcs; rfl) | simp)) (by rw [hF] at hbl; simp [byA_len]; omega) (by rw [hF] at hbl; simp [byA_len]; omega) ?_)
                  refine ADB.n ?_
                  refine ADB.r 17 rfl (rdP_iaddr_bx (i := 2) rfl ar_37 rfl rfl rfl (by first | rfl | omega) (by decide)) rfl ?_
                  refine ADB.move 18 rfl (by kernel_rfl) rfl (op_store rfl rfl rfl rfl rfl (by first | exact live_owM rfl | exact live_own rfl | exact live_nown rfl | rfl) sz_29 (Nat.le_of_ble_eq_true rfl) ?_)
                  refine ADB.n ?_
                  refine ADB.done (by kernel_rfl) ?_
                  exact ⟨rfl, rfl⟩
                · skip
                  refine ⟨_, rfl, rfl, AOpB.op (ARd.opB (rd_load_bx rfl ag_29 rfl rfl rfl) ?_)⟩
                  refine ADB.n ?_
                  refine ADB.all (is := [2, 14]) (by kernel_rfl) (by simp) ?_
                  intro i hi
                  simp only [List.mem_cons, List.not_mem_nil, or_false] at hi
                  rcases hi with rfl | rfl
                  · skip
                    refine ⟨_, rfl, rfl, AOpB.op (ARd.opB (rd_load_bx rfl ag_3 rfl rfl rfl) ?_)⟩
                    refine ADB.n ?_
                    refine ADB.move 14 rfl (by kernel_rfl) rfl (op_appendM rfl ap_29 rfl rfl (src_sl rfl (by first | exact csS_one | exact byA_one | (intro cs hcs; obtain rfl := List.mem_singleton.1 hcs; rfl) | (intro cs hcs; obtain ⟨_, _, rfl⟩ := List.mem_map.1 hcs; rfl) | simp)) (by rw [hF] at hbl; simp [byA_len]; omega) (by rw [hF] at hbl; simp [byA_len]; omega) ?_)
                    refine ADB.n ?_
                    refine ADB.r 17 rfl (rdP_iaddr_bx (i := 2) rfl ar_37 rfl rfl rfl (by first | rfl | omega) (by decide)) rfl ?_
                    refine ADB.move 18 rfl (by kernel_rfl) rfl (op_store rfl rfl rfl rfl rfl (by first | exact live_owM rfl | exact live_own rfl | exact live_nown rfl | rfl) sz_29 (Nat.le_of_ble_eq_true rfl) ?_)
                    refine ADB.n ?_
                    refine ADB.done (by kernel_rfl) ?_
                    exact ⟨rfl, rfl⟩
                  · skip
                    refine ⟨_, rfl, rfl, op_appendM rfl ap_29 rfl rfl (src_sl rfl (by first | exact csS_one | exact byA_one | (intro cs hcs; obtain rfl := List.mem_singleton.1 hcs; rfl) | (intro cs hcs; obtain ⟨_, _, rfl⟩ := List.mem_map.1 hcs; rfl) | simp)) (by rw [hF] at hbl; simp [byA_len]; omega) (by rw [hF] at hbl; simp [byA_len]; omega) ?_⟩
                    refine ADB.n ?_
                    refine ADB.move 2 rfl (by kernel_rfl) rfl (AOpB.op (ARd.opB (rd_load_bx rfl ag_3 rfl rfl rfl) ?_))
                    refine ADB.n ?_
                    refine ADB.r 17 rfl (rdP_iaddr_bx (i := 2) rfl ar_37 rfl rfl rfl (by first | rfl | omega) (by decide)) rfl ?_
                    refine ADB.move 18 rfl (by kernel_rfl) rfl (op_store rfl rfl rfl rfl rfl (by first | exact live_owM rfl | exact live_own rfl | exact live_nown rfl | rfl) sz_29 (Nat.le_of_ble_eq_true rfl) ?_)
                    refine ADB.n ?_
                    refine ADB.done (by kernel_rfl) ?_
                    exact ⟨rfl, rfl⟩
            · skip
              refine ⟨_, rfl, rfl, AOpB.op (ARd.opB (rd_load_bx rfl ag_29 rfl rfl rfl) ?_)⟩
              refine ADB.n ?_
              refine ADB.r 13 rfl (rdP_slice_sl rfl el_29 rfl byA_one rfl ⟨_, _, rfl, (Int.toNat_of_nonneg (by omega)).symm⟩ (by omega) (by simp only [byA_len]; simp only [DeedD.count, h26, Bool.false_eq_true, if_false] at hcn; exact hcn)) rfl ?_
              refine ADB.all (is := [2, 5]) (by kernel_rfl) (by simp) ?_
              intro i hi
              simp only [List.mem_cons, List.not_mem_nil, or_false] at hi
              rcases hi with rfl | rfl
              · skip
                refine ⟨_, rfl, rfl, AOpB.op (ARd.opB (rd_load_bx rfl ag_3 rfl rfl rfl) ?_)⟩
                refine ADB.n ?_
                refine ADB.move 5 rfl (by kernel_rfl) rfl (AOpB.op (ARd.opB (rd_load_bx rfl ag_3 rfl rfl rfl) ?_))
                refine ADB.n ?_
                refine ADB.r 8 rfl (rdP_iaddr_bx (i := 2) rfl ar_37 rfl rfl rfl (by first | rfl | omega) (by decide)) rfl ?_
                refine ADB.move 9 rfl (by kernel_rfl) rfl (AOpB.op (ARd.opB (rd_load_bx rfl ag_29 rfl rfl rfl) ?_))
                refine ADB.n ?_
                refine ADB.move 14 rfl (by kernel_rfl) rfl (op_appendM rfl ap_29 rfl rfl (src_sl rfl (by first | exact csS_one | exact byA_one | (intro cs hcs; obtain rfl := List.mem_singleton.1 hcs; rfl) | (intro cs hcs; obtain ⟨_, _, rfl⟩ := List.mem_map.1 hcs; rfl) | simp)) (by rw [hF] at hbl; simp [byA_len]; omega) (by rw [hF] at hbl; simp [byA_len]; omega) ?_)
                refine ADB.n ?_
                refine ADB.r 17 rfl (rdP_iaddr_bx (i := 2) rfl ar_37 rfl rfl rfl (by first | rfl | omega) (by decide)) rfl ?_
                refine ADB.move 18 rfl (by kernel_rfl) rfl (op_store rfl rfl rfl rfl rfl (by first | exact live_owM rfl | exact live_own rfl | exact live_nown rfl | rfl) sz_29 (Nat.le_of_ble_eq_true rfl) ?_)
                refine ADB.n ?_
                refine ADB.done (by kernel_rfl) ?_
                exact ⟨rfl, rfl⟩
              · skip
                refine ⟨_, rfl, rfl, AOpB.op (ARd.opB (rd_load_bx rfl ag_3 rfl rfl rfl) ?_)⟩
                refine ADB.n ?_
                refine ADB.r 8 rfl (rdP_iaddr_bx (i := 2) rfl ar_37 rfl rfl rfl (by first | rfl | omega) (by decide)) rfl ?_
                refine ADB.all (is := [2, 9]) (by kernel_rfl) (by simp) ?_
                intro i hi
                simp only [List.mem_cons, List.not_mem_nil, or_false] at hi
                rcases hi with rfl | rfl
                · skip
                  refine ⟨_, rfl, rfl, AOpB.op (ARd.opB (rd_load_bx rfl ag_3 rfl rfl rfl) ?_)⟩
                  refine ADB.n ?_
                  refine ADB.move 9 rfl (by kernel_rfl) rfl (AOpB.op (ARd.opB (rd_load_bx rfl ag_29 rfl rfl rfl) ?_))
                  refine ADB.n ?_
                  refine ADB.move 14 rfl (by kernel_rfl) rfl (op_appendM rfl ap_29 rfl rfl (src_sl rfl (by first | exact csS_one | exact byA_one | (intro cs hcs; obtain rfl := List.mem_singleton.1 hcs; rfl) | (intro cs hcs; obtain ⟨_, _, rfl⟩ := List.mem_map.1 hcs; rfl) | simp)) (by rw [hF] at hbl; simp [byA_len]; omega) (by rw [hF] at hbl; simp [byA_len]; omega) ?_)
                  refine ADB.n ?_
                  refine ADB.r 17 rfl (rdP_iaddr_bx (i := 2) rfl ar_37 rfl rfl rfl (by first | rfl | omega) (by decide)) rfl ?_
                  refine ADB.move 18 rfl (by kernel_rfl) rfl (op_store rfl rfl rfl rfl rfl (by first | exact live_owM rfl | exact live_own rfl | exact live_nown rfl | rfl) sz_29 (Nat.le_of_ble_eq_true rfl) ?_)
                  refine ADB.n ?_
                  refine ADB.done (by kernel_rfl) ?_
                  exact ⟨rfl, rfl⟩
                · skip
                  refine ⟨_, rfl, rfl, AOpB.op (ARd.opB (rd_load_bx rfl ag_29 rfl rfl rfl) ?_)⟩
                  refine ADB.n ?_
                  refine ADB.all (is := [2, 14]) (by kernel_rfl) (by simp) ?_
                  intro i hi
                  simp only [List.mem_cons, List.not_mem_nil, or_false] at hi
                  rcases hi with rfl | rfl
                  · skip
                    refine ⟨_, rfl, rfl, AOpB.op (ARd.opB (rd_load_bx rfl ag_3 rfl rfl rfl) ?_)⟩
                    refine ADB.n ?_
                    refine ADB.move 14 rfl (by kernel_rfl) rfl (op_appendM rfl ap_29 rfl rfl (src_sl rfl (by first | exact csS_one | exact byA_one | (intro cs hcs; obtain rfl := List.mem_singleton.1 hcs; rfl) | (intro cs hcs; obtain ⟨_, _, rfl⟩ := List.mem_map.1 hcs; rfl) | simp)) (by rw [hF] at hbl; simp [byA_len]; omega) (by rw [hF] at hbl; simp [byA_len]; omega) ?_)
                    refine ADB.n ?_
                    refine ADB.r 17 rfl (rdP_iaddr_bx (i := 2) rfl ar_37 rfl rfl rfl (by first | rfl | omega) (by decide)) rfl ?_
                    refine ADB.move 18 rfl (by kernel_rfl) rfl (op_store rfl rfl rfl rfl rfl (by first | exact live_owM rfl | exact live_own rfl | exact live_nown rfl | rfl) sz_29 (Nat.le_of_ble_eq_true rfl) ?_)
                    refine ADB.n ?_
                    refine ADB.done (by kernel_rfl) ?_
                    exact ⟨rfl, rfl⟩
                  · skip
                    refine ⟨_, rfl, rfl, op_appendM rfl ap_29 rfl rfl (src_sl rfl (by first | exact csS_one | exact byA_one | (intro cs hcs; obtain rfl := List.mem_singleton.1 hcs; rfl) | (intro cs hcs; obtain ⟨_, _, rfl⟩ := List.mem_map.1 hcs; rfl) | simp)) (by rw [hF] at hbl; simp [byA_len]; omega) (by rw [hF] at hbl; simp [byA_len]; omega) ?_⟩
                    refine ADB.n ?_
                    refine ADB.move 2 rfl (by kernel_rfl) rfl (AOpB.op (ARd.opB (rd_load_bx rfl ag_3 rfl rfl rfl) ?_))
                    refine ADB.n ?_
                    refine ADB.r 17 rfl (rdP_iaddr_bx (i := 2) rfl ar_37 rfl rfl rfl (by first | rfl | omega) (by decide)) rfl ?_
                    refine ADB.move 18 rfl (by kernel_rfl) rfl (op_store rfl rfl rfl rfl rfl (by first | exact live_owM rfl | exact live_own rfl | exact live_nown rfl | rfl) sz_29 (Nat.le_of_ble_eq_true rfl) ?_)
                    refine ADB.n ?_
                    refine ADB.done (by kernel_rfl) ?_
                    exact ⟨rfl, rfl⟩
          skip
          change AW _ _ _ _ _
          refine AW.region ?_
          refine AL.r (rd_arith_add rfl rfl rfl (by first | exact IntWalk.i64_in _ (by omega) | rfl)) ?_
          refine AL.r (rd_move rfl rfl) ?_
          refine AL.nil ?_
          refine ⟨⟨j + 1, kp - cntN d.q[j] kp, stepL d.q[j] (cntN d.q[j] kp).toNat s, a5, a6, a7 + 1, a8⟩, ?_, by first | omega | (simp only []; omega), ?_, ?_⟩
          · exact hJ.next hjl h0
          · simp only [anys, upds, offs, List.set_cons_zero, List.set_cons_succ]; repeat (first | exact Wk.nil | refine Wk.same ?_ | refine Wk.any ?_)
          · simp only [anys, upds, offs, List.set_cons_zero, List.set_cons_succ]; repeat (first | exact Sk.nil _ | refine Sk.same _ ?_ | refine Sk.scr _ (by decide) ?_ | refine Sk.eq _ (by simp [stepL, upd, hF, h26]) ?_)
        · skip
          apply AW.drawS (by kernel_rfl)
          · skip
            refine ADA.r 0 rfl (ARdP.a (rdP_move rfl rfl)) rfl ?_
            refine ADA.r 1 rfl (ARdP.a (rdP_faddr_bx rfl fo_102_0 rfl rfl ⟨_, _, rfl⟩)) rfl ?_
            refine ADA.r 3 rfl (ARdP.a (rdP_move rfl rfl)) rfl ?_
            refine ADA.r 4 rfl (ARdP.a (rdP_faddr_bx rfl fo_102_0 rfl rfl ⟨_, _, rfl⟩)) rfl ?_
            refine ADA.r 6 rfl (ARdP.a (rdP_nilc_bx rfl rfl rfl)) rfl ?_
            refine ADA.r 7 rfl (ARdP.a (rdP_faddr_bx rfl fo_99_2 rfl rfl ⟨_, _, rfl⟩)) rfl ?_
            refine ADA.r 10 rfl (ARdP.a (rdP_faddr_bx rfl fo_102_3 rfl rfl ⟨_, _, rfl⟩)) rfl ?_
            refine ADA.r 12 rfl (ARdP.a (rdP_move rfl rfl)) rfl ?_
            refine ADA.r 15 rfl (ARdP.a (rdP_nilc_bx rfl rfl rfl)) rfl ?_
            refine ADA.r 16 rfl (ARdP.a (rdP_faddr_bx rfl fo_99_2 rfl rfl ⟨_, _, rfl⟩)) rfl ?_
            refine ADA.b ?_
            refine ADB.all (is := [2, 5, 11]) (by kernel_rfl) (by simp) ?_
            intro i hi
            simp only [List.mem_cons, List.not_mem_nil, or_false] at hi
            rcases hi with rfl | rfl | rfl
            · skip
              refine ⟨_, rfl, rfl, AOpB.op (ARd.opB (rd_load_bx rfl ag_3 rfl rfl rfl) ?_)⟩
              refine ADB.n ?_
              refine ADB.all (is := [5, 11]) (by kernel_rfl) (by simp) ?_
              intro i hi
              simp only [List.mem_cons, List.not_mem_nil, or_false] at hi
              rcases hi with rfl | rfl
              · skip
                refine ⟨_, rfl, rfl, AOpB.op (ARd.opB (rd_load_bx rfl ag_3 rfl rfl rfl) ?_)⟩
                refine ADB.n ?_
                refine ADB.r 8 rfl (rdP_iaddr_bx (i := 3) rfl ar_37 rfl rfl rfl (by first | rfl | omega) (by decide)) rfl ?_
                refine ADB.all (is := [9, 11]) (by kernel_rfl) (by simp) ?_
                intro i hi
                simp only [List.mem_cons, List.not_mem_nil, or_false] at hi
                rcases hi with rfl | rfl
                · skip
                  refine ⟨_, rfl, rfl, AOpB.op (ARd.opB (rd_load_bx rfl ag_29 rfl rfl rfl) ?_)⟩
                  refine ADB.n ?_
                  refine ADB.move 11 rfl (by kernel_rfl) rfl (AOpB.op (ARd.opB (rd_load_bx rfl ag_29 rfl rfl rfl) ?_))
                  refine ADB.n ?_
                  refine ADB.r 13 rfl (rdP_slice_sl rfl el_29 rfl byA_one rfl ⟨_, _, rfl, (Int.toNat_of_nonneg (by omega)).symm⟩ (by omega) (by simp only [byA_len]; simp only [DeedD.count, h26, Bool.false_eq_true, if_false] at hcn; exact hcn)) rfl ?_
                  refine ADB.move 14 rfl (by kernel_rfl) rfl (op_appendM rfl ap_29 rfl rfl (src_sl rfl (by first | exact csS_one | exact byA_one | (intro cs hcs; obtain rfl := List.mem_singleton.1 hcs; rfl) | (intro cs hcs; obtain ⟨_, _, rfl⟩ := List.mem_map.1 hcs; rfl) | simp)) (by rw [hF] at hbl; simp [byA_len]; omega) (by rw [hF] at hbl; simp [byA_len]; omega) ?_)
                  refine ADB.n ?_
                  refine ADB.r 17 rfl (rdP_iaddr_bx (i := 3) rfl ar_37 rfl rfl rfl (by first | rfl | omega) (by decide)) rfl ?_
                  refine ADB.move 18 rfl (by kernel_rfl) rfl (op_store rfl rfl rfl rfl rfl (by first | exact live_owM rfl | exact live_own rfl | exact live_nown rfl | rfl) sz_29 (Nat.le_of_ble_eq_true rfl) ?_)
                  refine ADB.n ?_
                  refine ADB.done (by kernel_rfl) ?_
                  exact ⟨rfl, rfl⟩
                · skip
                  refine ⟨_, rfl, rfl, AOpB.op (ARd.opB (rd_load_bx rfl ag_29 rfl rfl rfl) ?_)⟩
                  refine ADB.n ?_
                  refine ADB.r 13 rfl (rdP_slice_sl rfl el_29 rfl byA_one rfl ⟨_, _, rfl, (Int.toNat_of_nonneg (by omega)).symm⟩ (by omega) (by simp only [byA_len]; simp only [DeedD.count, h26, Bool.false_eq_true, if_false] at hcn; exact hcn)) rfl ?_
                  refine ADB.move 9 rfl (by kernel_rfl) rfl (AOpB.op (ARd.opB (rd_load_bx rfl ag_29 rfl rfl rfl) ?_))
                  refine ADB.n ?_
                  refine ADB.move 14 rfl (by kernel_rfl) rfl (op_appendM rfl ap_29 rfl rfl (src_sl rfl (by first | exact csS_one | exact byA_one | (intro cs hcs; obtain rfl := List.mem_singleton.1 hcs; rfl) | (intro cs hcs; obtain ⟨_, _, rfl⟩ := List.mem_map.1 hcs; rfl) | simp)) (by rw [hF] at hbl; simp [byA_len]; omega) (by rw [hF] at hbl; simp [byA_len]; omega) ?_)
                  refine ADB.n ?_
                  refine ADB.r 17 rfl (rdP_iaddr_bx (i := 3) rfl ar_37 rfl rfl rfl (by first | rfl | omega) (by decide)) rfl ?_
                  refine ADB.move 18 rfl (by kernel_rfl) rfl (op_store rfl rfl rfl rfl rfl (by first | exact live_owM rfl | exact live_own rfl | exact live_nown rfl | rfl) sz_29 (Nat.le_of_ble_eq_true rfl) ?_)
                  refine ADB.n ?_
                  refine ADB.done (by kernel_rfl) ?_
                  exact ⟨rfl, rfl⟩
              · skip
                refine ⟨_, rfl, rfl, AOpB.op (ARd.opB (rd_load_bx rfl ag_29 rfl rfl rfl) ?_)⟩
                refine ADB.n ?_
                refine ADB.r 13 rfl (rdP_slice_sl rfl el_29 rfl byA_one rfl ⟨_, _, rfl, (Int.toNat_of_nonneg (by omega)).symm⟩ (by omega) (by simp only [byA_len]; simp only [DeedD.count, h26, Bool.false_eq_true, if_false] at hcn; exact hcn)) rfl ?_
                refine ADB.move 5 rfl (by kernel_rfl) rfl (AOpB.op (ARd.opB (rd_load_bx rfl ag_3 rfl rfl rfl) ?_))
                refine ADB.n ?_
                refine ADB.r 8 rfl (rdP_iaddr_bx (i := 3) rfl ar_37 rfl rfl rfl (by first | rfl | omega) (by decide)) rfl ?_
                refine ADB.move 9 rfl (by kernel_rfl) rfl (AOpB.op (ARd.opB (rd_load_bx rfl ag_29 rfl rfl rfl) ?_))
                refine ADB.n ?_
                refine ADB.move 14 rfl (by kernel_rfl) rfl (op_appendM rfl ap_29 rfl rfl (src_sl rfl (by first | exact csS_one | exact byA_one | (intro cs hcs; obtain rfl := List.mem_singleton.1 hcs; rfl) | (intro cs hcs; obtain ⟨_, _, rfl⟩ := List.mem_map.1 hcs; rfl) | simp)) (by rw [hF] at hbl; simp [byA_len]; omega) (by rw [hF] at hbl; simp [byA_len]; omega) ?_)
                refine ADB.n ?_
                refine ADB.r 17 rfl (rdP_iaddr_bx (i := 3) rfl ar_37 rfl rfl rfl (by first | rfl | omega) (by decide)) rfl ?_
                refine ADB.move 18 rfl (by kernel_rfl) rfl (op_store rfl rfl rfl rfl rfl (by first | exact live_owM rfl | exact live_own rfl | exact live_nown rfl | rfl) sz_29 (Nat.le_of_ble_eq_true rfl) ?_)
                refine ADB.n ?_
                refine ADB.done (by kernel_rfl) ?_
                exact ⟨rfl, rfl⟩
            · skip
              refine ⟨_, rfl, rfl, AOpB.op (ARd.opB (rd_load_bx rfl ag_3 rfl rfl rfl) ?_)⟩
              refine ADB.n ?_
              refine ADB.r 8 rfl (rdP_iaddr_bx (i := 3) rfl ar_37 rfl rfl rfl (by first | rfl | omega) (by decide)) rfl ?_
              refine ADB.all (is := [2, 9, 11]) (by kernel_rfl) (by simp) ?_
              intro i hi
              simp only [List.mem_cons, List.not_mem_nil, or_false] at hi
              rcases hi with rfl | rfl | rfl
              · skip
                refine ⟨_, rfl, rfl, AOpB.op (ARd.opB (rd_load_bx rfl ag_3 rfl rfl rfl) ?_)⟩
                refine ADB.n ?_
                refine ADB.all (is := [9, 11]) (by kernel_rfl) (by simp) ?_
                intro i hi
                simp only [List.mem_cons, List.not_mem_nil, or_false] at hi
                rcases hi with rfl | rfl
                · skip
                  refine ⟨_, rfl, rfl, AOpB.op (ARd.opB (rd_load_bx rfl ag_29 rfl rfl rfl) ?_)⟩
                  refine ADB.n ?_
                  refine ADB.move 11 rfl (by kernel_rfl) rfl (AOpB.op (ARd.opB (rd_load_bx rfl ag_29 rfl rfl rfl) ?_))
                  refine ADB.n ?_
                  refine ADB.r 13 rfl (rdP_slice_sl rfl el_29 rfl byA_one rfl ⟨_, _, rfl, (Int.toNat_of_nonneg (by omega)).symm⟩ (by omega) (by simp only [byA_len]; simp only [DeedD.count, h26, Bool.false_eq_true, if_false] at hcn; exact hcn)) rfl ?_
                  refine ADB.move 14 rfl (by kernel_rfl) rfl (op_appendM rfl ap_29 rfl rfl (src_sl rfl (by first | exact csS_one | exact byA_one | (intro cs hcs; obtain rfl := List.mem_singleton.1 hcs; rfl) | (intro cs hcs; obtain ⟨_, _, rfl⟩ := List.mem_map.1 hcs; rfl) | simp)) (by rw [hF] at hbl; simp [byA_len]; omega) (by rw [hF] at hbl; simp [byA_len]; omega) ?_)
                  refine ADB.n ?_
                  refine ADB.r 17 rfl (rdP_iaddr_bx (i := 3) rfl ar_37 rfl rfl rfl (by first | rfl | omega) (by decide)) rfl ?_
                  refine ADB.move 18 rfl (by kernel_rfl) rfl (op_store rfl rfl rfl rfl rfl (by first | exact live_owM rfl | exact live_own rfl | exact live_nown rfl | rfl) sz_29 (Nat.le_of_ble_eq_true rfl) ?_)
                  refine ADB.n ?_
                  refine ADB.done (by kernel_rfl) ?_
                  exact ⟨rfl, rfl⟩
                · skip
                  refine ⟨_, rfl, rfl, AOpB.op (ARd.opB (rd_load_bx rfl ag_29 rfl rfl rfl) ?_)⟩
                  refine ADB.n ?_
                  refine ADB.r 13 rfl (rdP_slice_sl rfl el_29 rfl byA_one rfl ⟨_, _, rfl, (Int.toNat_of_nonneg (by omega)).symm⟩ (by omega) (by simp only [byA_len]; simp only [DeedD.count, h26, Bool.false_eq_true, if_false] at hcn; exact hcn)) rfl ?_
                  refine ADB.move 9 rfl (by kernel_rfl) rfl (AOpB.op (ARd.opB (rd_load_bx rfl ag_29 rfl rfl rfl) ?_))
                  refine ADB.n ?_
                  refine ADB.move 14 rfl (by kernel_rfl) rfl (op_appendM rfl ap_29 rfl rfl (src_sl rfl (by first | exact csS_one | exact byA_one | (intro cs hcs; obtain rfl := List.mem_singleton.1 hcs; rfl) | (intro cs hcs; obtain ⟨_, _, rfl⟩ := List.mem_map.1 hcs; rfl) | simp)) (by rw [hF] at hbl; simp [byA_len]; omega) (by rw [hF] at hbl; simp [byA_len]; omega) ?_)
                  refine ADB.n ?_
                  refine ADB.r 17 rfl (rdP_iaddr_bx (i := 3) rfl ar_37 rfl rfl rfl (by first | rfl | omega) (by decide)) rfl ?_
                  refine ADB.move 18 rfl (by kernel_rfl) rfl (op_store rfl rfl rfl rfl rfl (by first | exact live_owM rfl | exact live_own rfl | exact live_nown rfl | rfl) sz_29 (Nat.le_of_ble_eq_true rfl) ?_)
                  refine ADB.n ?_
                  refine ADB.done (by kernel_rfl) ?_
                  exact ⟨rfl, rfl⟩
              · skip
                refine ⟨_, rfl, rfl, AOpB.op (ARd.opB (rd_load_bx rfl ag_29 rfl rfl rfl) ?_)⟩
                refine ADB.n ?_
                refine ADB.all (is := [2, 11]) (by kernel_rfl) (by simp) ?_
                intro i hi
                simp only [List.mem_cons, List.not_mem_nil, or_false] at hi
                rcases hi with rfl | rfl
                · skip
                  refine ⟨_, rfl, rfl, AOpB.op (ARd.opB (rd_load_bx rfl ag_3 rfl rfl rfl) ?_)⟩
                  refine ADB.n ?_
                  refine ADB.move 11 rfl (by kernel_rfl) rfl (AOpB.op (ARd.opB (rd_load_bx rfl ag_29 rfl rfl rfl) ?_))
                  refine ADB.n ?_
                  refine ADB.r 13 rfl (rdP_slice_sl rfl el_29 rfl byA_one rfl ⟨_, _, rfl, (Int.toNat_of_nonneg (by omega)).symm⟩ (by omega) (by simp only [byA_len]; simp only [DeedD.count, h26, Bool.false_eq_true, if_false] at hcn; exact hcn)) rfl ?_
                  refine ADB.move 14 rfl (by kernel_rfl) rfl (op_appendM rfl ap_29 rfl rfl (src_sl rfl (by first | exact csS_one | exact byA_one | (intro cs hcs; obtain rfl := List.mem_singleton.1 hcs; rfl) | (intro cs hcs; obtain ⟨_, _, rfl⟩ := List.mem_map.1 hcs; rfl) | simp)) (by rw [hF] at hbl; simp [byA_len]; omega) (by rw [hF] at hbl; simp [byA_len]; omega) ?_)
                  refine ADB.n ?_
                  refine ADB.r 17 rfl (rdP_iaddr_bx (i := 3) rfl ar_37 rfl rfl rfl (by first | rfl | omega) (by decide)) rfl ?_
                  refine ADB.move 18 rfl (by kernel_rfl) rfl (op_store rfl rfl rfl rfl rfl (by first | exact live_owM rfl | exact live_own rfl | exact live_nown rfl | rfl) sz_29 (Nat.le_of_ble_eq_true rfl) ?_)
                  refine ADB.n ?_
                  refine ADB.done (by kernel_rfl) ?_
                  exact ⟨rfl, rfl⟩
                · skip
                  refine ⟨_, rfl, rfl, AOpB.op (ARd.opB (rd_load_bx rfl ag_29 rfl rfl rfl) ?_)⟩
                  refine ADB.n ?_
                  refine ADB.r 13 rfl (rdP_slice_sl rfl el_29 rfl byA_one rfl ⟨_, _, rfl, (Int.toNat_of_nonneg (by omega)).symm⟩ (by omega) (by simp only [byA_len]; simp only [DeedD.count, h26, Bool.false_eq_true, if_false] at hcn; exact hcn)) rfl ?_
                  refine ADB.all (is := [2, 14]) (by kernel_rfl) (by simp) ?_
                  intro i hi
                  simp only [List.mem_cons, List.not_mem_nil, or_false] at hi
                  rcases hi with rfl | rfl
                  · skip
                    refine ⟨_, rfl, rfl, AOpB.op (ARd.opB (rd_load_bx rfl ag_3 rfl rfl rfl) ?_)⟩
                    refine ADB.n ?_
                    refine ADB.move 14 rfl (by kernel_rfl) rfl (op_appendM rfl ap_29 rfl rfl (src_sl rfl (by first | exact csS_one | exact byA_one | (intro cs hcs; obtain rfl := List.mem_singleton.1 hcs; rfl) | (intro cs hcs; obtain ⟨_, _, rfl⟩ := List.mem_map.1 hcs; rfl) | simp)) (by rw [hF] at hbl; simp [byA_len]; omega) (by rw [hF] at hbl; simp [byA_len]; omega) ?_)
                    refine ADB.n ?_
                    refine ADB.r 17 rfl (rdP_iaddr_bx (i := 3) rfl ar_37 rfl rfl rfl (by first | rfl | omega) (by decide)) rfl ?_
                    refine ADB.move 18 rfl (by kernel_rfl) rfl (op_store rfl rfl rfl rfl rfl (by first | exact live_owM rfl | exact live_own rfl | exact live_nown rfl | rfl) sz_29 (Nat.le_of_ble_eq_true rfl) ?_)
                    refine ADB.n ?_
                    refine ADB.done (by kernel_rfl) ?_
                    exact ⟨rfl, rfl⟩
                  · skip
                    refine ⟨_, rfl, rfl, op_appendM rfl ap_29 rfl rfl (src_sl rfl (by first | exact csS_one | exact byA_one | (intro cs hcs; obtain rfl := List.mem_singleton.1 hcs; rfl) | (intro cs hcs; obtain ⟨_, _, rfl⟩ := List.mem_map.1 hcs; rfl) | simp)) (by rw [hF] at hbl; simp [byA_len]; omega) (by rw [hF] at hbl; simp [byA_len]; omega) ?_⟩
                    refine ADB.n ?_
                    refine ADB.move 2 rfl (by kernel_rfl) rfl (AOpB.op (ARd.opB (rd_load_bx rfl ag_3 rfl rfl rfl) ?_))
                    refine ADB.n ?_
                    refine ADB.r 17 rfl (rdP_iaddr_bx (i := 3) rfl ar_37 rfl rfl rfl (by first | rfl | omega) (by decide)) rfl ?_
                    refine ADB.move 18 rfl (by kernel_rfl) rfl (op_store rfl rfl rfl rfl rfl (by first | exact live_owM rfl | exact live_own rfl | exact live_nown rfl | rfl) sz_29 (Nat.le_of_ble_eq_true rfl) ?_)
                    refine ADB.n ?_
                    refine ADB.done (by kernel_rfl) ?_
                    exact ⟨rfl, rfl⟩
              · skip
                refine ⟨_, rfl, rfl, AOpB.op (ARd.opB (rd_load_bx rfl ag_29 rfl rfl rfl) ?_)⟩
                refine ADB.n ?_
                refine ADB.r 13 rfl (rdP_slice_sl rfl el_29 rfl byA_one rfl ⟨_, _, rfl, (Int.toNat_of_nonneg (by omega)).symm⟩ (by omega) (by simp only [byA_len]; simp only [DeedD.count, h26, Bool.false_eq_true, if_false] at hcn; exact hcn)) rfl ?_
                refine ADB.all (is := [2, 9]) (by kernel_rfl) (by simp) ?_
                intro i hi
                simp only [List.mem_cons, List.not_mem_nil, or_false] at hi
                rcases hi with rfl | rfl
                · skip
                  refine ⟨_, rfl, rfl, AOpB.op (ARd.opB (rd_load_bx rfl ag_3 rfl rfl rfl) ?_)⟩
                  refine ADB.n ?_
                  refine ADB.move 9 rfl (by kernel_rfl) rfl (AOpB.op (ARd.opB (rd_load_bx rfl ag_29 rfl rfl rfl) ?_))
                  refine ADB.n ?_
                  refine ADB.move 14 rfl (by kernel_rfl) rfl (op_appendM rfl ap_29 rfl rfl (src_sl rfl (by first | exact csS_one | exact byA_one | (intro cs hcs; obtain rfl := List.mem_singleton.1 hcs; rfl) | (intro cs hcs; obtain ⟨_, _, rfl⟩ := List.mem_map.1 hcs; rfl) | simp)) (by rw [hF] at hbl; simp [byA_len]; omega) (by rw [hF] at hbl; simp [byA_len]; omega) ?_)
                  refine ADB.n ?_
                  refine ADB.r 17 rfl (rdP_iaddr_bx (i := 3) rfl ar_37 rfl rfl rfl (by first | rfl | omega) (by decide)) rfl ?_
                  refine ADB.move 18 rfl (by kernel_rfl) rfl (op_store rfl rfl rfl rfl rfl (by first | exact live_owM rfl | exact live_own rfl | exact live_nown rfl | rfl) sz_29 (Nat.le_of_ble_eq_true rfl) ?_)
                  refine ADB.n ?_
                  refine ADB.done (by kernel_rfl) ?_
                  exact ⟨rfl, rfl⟩
                · skip
                  refine ⟨_, rfl, rfl, AOpB.op (ARd.opB (rd_load_bx rfl ag_29 rfl rfl rfl) ?_)⟩
                  refine ADB.n ?_
                  refine ADB.all (is := [2, 14]) (by kernel_rfl) (by simp) ?_
                  intro i hi
                  simp only [List.mem_cons, List.not_mem_nil, or_false] at hi
                  rcases hi with rfl | rfl
                  · skip
                    refine ⟨_, rfl, rfl, AOpB.op (ARd.opB (rd_load_bx rfl ag_3 rfl rfl rfl) ?_)⟩
                    refine ADB.n ?_
                    refine ADB.move 14 rfl (by kernel_rfl) rfl (op_appendM rfl ap_29 rfl rfl (src_sl rfl (by first | exact csS_one | exact byA_one | (intro cs hcs; obtain rfl := List.mem_singleton.1 hcs; rfl) | (intro cs hcs; obtain ⟨_, _, rfl⟩ := List.mem_map.1 hcs; rfl) | simp)) (by rw [hF] at hbl; simp [byA_len]; omega) (by rw [hF] at hbl; simp [byA_len]; omega) ?_)
                    refine ADB.n ?_
                    refine ADB.r 17 rfl (rdP_iaddr_bx (i := 3) rfl ar_37 rfl rfl rfl (by first | rfl | omega) (by decide)) rfl ?_
                    refine ADB.move 18 rfl (by kernel_rfl) rfl (op_store rfl rfl rfl rfl rfl (by first | exact live_owM rfl | exact live_own rfl | exact live_nown rfl | rfl) sz_29 (Nat.le_of_ble_eq_true rfl) ?_)
                    refine ADB.n ?_
                    refine ADB.done (by kernel_rfl) ?_
                    exact ⟨rfl, rfl⟩
                  · skip
                    refine ⟨_, rfl, rfl, op_appendM rfl ap_29 rfl rfl (src_sl rfl (by first | exact csS_one | exact byA_one | (intro cs hcs; obtain rfl := List.mem_singleton.1 hcs; rfl) | (intro cs hcs; obtain ⟨_, _, rfl⟩ := List.mem_map.1 hcs; rfl) | simp)) (by rw [hF] at hbl; simp [byA_len]; omega) (by rw [hF] at hbl; simp [byA_len]; omega) ?_⟩
                    refine ADB.n ?_
                    refine ADB.move 2 rfl (by kernel_rfl) rfl (AOpB.op (ARd.opB (rd_load_bx rfl ag_3 rfl rfl rfl) ?_))
                    refine ADB.n ?_
                    refine ADB.r 17 rfl (rdP_iaddr_bx (i := 3) rfl ar_37 rfl rfl rfl (by first | rfl | omega) (by decide)) rfl ?_
                    refine ADB.move 18 rfl (by kernel_rfl) rfl (op_store rfl rfl rfl rfl rfl (by first | exact live_owM rfl | exact live_own rfl | exact live_nown rfl | rfl) sz_29 (Nat.le_of_ble_eq_true rfl) ?_)
                    refine ADB.n ?_
                    refine ADB.done (by kernel_rfl) ?_
                    exact ⟨rfl, rfl⟩
            · skip
              refine ⟨_, rfl, rfl, AOpB.op (ARd.opB (rd_load_bx rfl ag_29 rfl rfl rfl) ?_)⟩
              refine ADB.n ?_
              refine ADB.r 13 rfl (rdP_slice_sl rfl el_29 rfl byA_one rfl ⟨_, _, rfl, (Int.toNat_of_nonneg (by omega)).symm⟩ (by omega) (by simp only [byA_len]; simp only [DeedD.count, h26, Bool.false_eq_true, if_false] at hcn; exact hcn)) rfl ?_
              refine ADB.all (is := [2, 5]) (by kernel_rfl) (by simp) ?_
              intro i hi
              simp only [List.mem_cons, List.not_mem_nil, or_false] at hi
              rcases hi with rfl | rfl
              · skip
                refine ⟨_, rfl, rfl, AOpB.op (ARd.opB (rd_load_bx rfl ag_3 rfl rfl rfl) ?_)⟩
                refine ADB.n ?_
                refine ADB.move 5 rfl (by kernel_rfl) rfl (AOpB.op (ARd.opB (rd_load_bx rfl ag_3 rfl rfl rfl) ?_))
                refine ADB.n ?_
                refine ADB.r 8 rfl (rdP_iaddr_bx (i := 3) rfl ar_37 rfl rfl rfl (by first | rfl | omega) (by decide)) rfl ?_
                refine ADB.move 9 rfl (by kernel_rfl) rfl (AOpB.op (ARd.opB (rd_load_bx rfl ag_29 rfl rfl rfl) ?_))
                refine ADB.n ?_
                refine ADB.move 14 rfl (by kernel_rfl) rfl (op_appendM rfl ap_29 rfl rfl (src_sl rfl (by first | exact csS_one | exact byA_one | (intro cs hcs; obtain rfl := List.mem_singleton.1 hcs; rfl) | (intro cs hcs; obtain ⟨_, _, rfl⟩ := List.mem_map.1 hcs; rfl) | simp)) (by rw [hF] at hbl; simp [byA_len]; omega) (by rw [hF] at hbl; simp [byA_len]; omega) ?_)
                refine ADB.n ?_
                refine ADB.r 17 rfl (rdP_iaddr_bx (i := 3) rfl ar_37 rfl rfl rfl (by first | rfl | omega) (by decide)) rfl ?_
                refine ADB.move 18 rfl (by kernel_rfl) rfl (op_store rfl rfl rfl rfl rfl (by first | exact live_owM rfl | exact live_own rfl | exact live_nown rfl | rfl) sz_29 (Nat.le_of_ble_eq_true rfl) ?_)
                refine ADB.n ?_
                refine ADB.done (by kernel_rfl) ?_
                exact ⟨rfl, rfl⟩
              · skip
                refine ⟨_, rfl, rfl, AOpB.op (ARd.opB (rd_load_bx rfl ag_3 rfl rfl rfl) ?_)⟩
                refine ADB.n ?_
                refine ADB.r 8 rfl (rdP_iaddr_bx (i := 3) rfl ar_37 rfl rfl rfl (by first | rfl | omega) (by decide)) rfl ?_
                refine ADB.all (is := [2, 9]) (by kernel_rfl) (by simp) ?_
                intro i hi
                simp only [List.mem_cons, List.not_mem_nil, or_false] at hi
                rcases hi with rfl | rfl
                · skip
                  refine ⟨_, rfl, rfl, AOpB.op (ARd.opB (rd_load_bx rfl ag_3 rfl rfl rfl) ?_)⟩
                  refine ADB.n ?_
                  refine ADB.move 9 rfl (by kernel_rfl) rfl (AOpB.op (ARd.opB (rd_load_bx rfl ag_29 rfl rfl rfl) ?_))
                  refine ADB.n ?_
                  refine ADB.move 14 rfl (by kernel_rfl) rfl (op_appendM rfl ap_29 rfl rfl (src_sl rfl (by first | exact csS_one | exact byA_one | (intro cs hcs; obtain rfl := List.mem_singleton.1 hcs; rfl) | (intro cs hcs; obtain ⟨_, _, rfl⟩ := List.mem_map.1 hcs; rfl) | simp)) (by rw [hF] at hbl; simp [byA_len]; omega) (by rw [hF] at hbl; simp [byA_len]; omega) ?_)
                  refine ADB.n ?_
                  refine ADB.r 17 rfl (rdP_iaddr_bx (i := 3) rfl ar_37 rfl rfl rfl (by first | rfl | omega) (by decide)) rfl ?_
                  refine ADB.move 18 rfl (by kernel_rfl) rfl (op_store rfl rfl rfl rfl rfl (by first | exact live_owM rfl | exact live_own rfl | exact live_nown rfl | rfl) sz_29 (Nat.le_of_ble_eq_true rfl) ?_)
                  refine ADB.n ?_
                  refine ADB.done (by kernel_rfl) ?_
                  exact ⟨rfl, rfl⟩
                · skip
                  refine ⟨_, rfl, rfl, AOpB.op (ARd.opB (rd_load_bx rfl ag_29 rfl rfl rfl) ?_)⟩
                  refine ADB.n ?_
                  refine ADB.all (is := [2, 14]) (by kernel_rfl) (by simp) ?_
                  intro i hi
                  simp only [List.mem_cons, List.not_mem_nil, or_false] at hi
                  rcases hi with rfl | rfl
                  · skip
                    refine ⟨_, rfl, rfl, AOpB.op (ARd.opB (rd_load_bx rfl ag_3 rfl rfl rfl) ?_)⟩
                    refine ADB.n ?_
                    refine ADB.move 14 rfl (by kernel_rfl) rfl (op_appendM rfl ap_29 rfl rfl (src_sl rfl (by first | exact csS_one | exact byA_one | (intro cs hcs; obtain rfl := List.mem_singleton.1 hcs; rfl) | (intro cs hcs; obtain ⟨_, _, rfl⟩ := List.mem_map.1 hcs; rfl) | simp)) (by rw [hF] at hbl; simp [byA_len]; omega) (by rw [hF] at hbl; simp [byA_len]; omega) ?_)
                    refine ADB.n ?_
                    refine ADB.r 17 rfl (rdP_iaddr_bx (i := 3) rfl ar_37 rfl rfl rfl (by first | rfl | omega) (by decide)) rfl ?_
                    refine ADB.move 18 rfl (by kernel_rfl) rfl (op_store rfl rfl rfl rfl rfl (by first | exact live_owM rfl | exact live_own rfl | exact live_nown rfl | rfl) sz_29 (Nat.le_of_ble_eq_true rfl) ?_)
                    refine ADB.n ?_
                    refine ADB.done (by kernel_rfl) ?_
                    exact ⟨rfl, rfl⟩
                  · skip
                    refine ⟨_, rfl, rfl, op_appendM rfl ap_29 rfl rfl (src_sl rfl (by first | exact csS_one | exact byA_one | (intro cs hcs; obtain rfl := List.mem_singleton.1 hcs; rfl) | (intro cs hcs; obtain ⟨_, _, rfl⟩ := List.mem_map.1 hcs; rfl) | simp)) (by rw [hF] at hbl; simp [byA_len]; omega) (by rw [hF] at hbl; simp [byA_len]; omega) ?_⟩
                    refine ADB.n ?_
                    refine ADB.move 2 rfl (by kernel_rfl) rfl (AOpB.op (ARd.opB (rd_load_bx rfl ag_3 rfl rfl rfl) ?_))
                    refine ADB.n ?_
                    refine ADB.r 17 rfl (rdP_iaddr_bx (i := 3) rfl ar_37 rfl rfl rfl (by first | rfl | omega) (by decide)) rfl ?_
                    refine ADB.move 18 rfl (by kernel_rfl) rfl (op_store rfl rfl rfl rfl rfl (by first | exact live_owM rfl | exact live_own rfl | exact live_nown rfl | rfl) sz_29 (Nat.le_of_ble_eq_true rfl) ?_)
                    refine ADB.n ?_
                    refine ADB.done (by kernel_rfl) ?_
                    exact ⟨rfl, rfl⟩
          skip
          change AW _ _ _ _ _
          refine AW.region ?_
          refine AL.r (rd_arith_add rfl rfl rfl (by first | exact IntWalk.i64_in _ (by omega) | rfl)) ?_
          refine AL.r (rd_move rfl rfl) ?_
          refine AL.nil ?_
          refine ⟨⟨j + 1, kp - cntN d.q[j] kp, stepL d.q[j] (cntN d.q[j] kp).toNat s, a5, a6, a7, a8 + 1⟩, ?_, by first | omega | (simp only []; omega), ?_, ?_⟩
          · exact hJ.next hjl h0
          · simp only [anys, upds, offs, List.set_cons_zero, List.set_cons_succ]; repeat (first | exact Wk.nil | refine Wk.same ?_ | refine Wk.any ?_)
          · simp only [anys, upds, offs, List.set_cons_zero, List.set_cons_succ]; repeat (first | exact Sk.nil _ | refine Sk.same _ ?_ | refine Sk.scr _ (by decide) ?_ | refine Sk.eq _ (by simp [stepL, upd, hF, h26]) ?_)
  · (try simp only [decide_eq_true_eq, decide_eq_false_iff_not, beq_iff_eq, beq_eq_false_iff_ne, bne_iff_ne, bne_eq_false_iff_eq, Bool.not_eq_true', Bool.not_eq_false', ne_eq, Bool.not_eq_eq_eq_not, Bool.not_true, Bool.not_false, gt_iff_lt, ge_iff_le, Bool.not_not] at h13)
    refine AW.exit ?_
    change AW _ _ _ _ _
    refine AW.seq ?_
    refine AW.region ?_
    refine AL.r (rd_move rfl rfl) ?_
    refine AL.r (rd_nilc_bx rfl rfl rfl) ?_
    refine AL.r (rd_faddr_bx rfl fo_99_3 rfl rfl ⟨_, _, rfl⟩) ?_
    refine AL.op rfl (op_store rfl rfl rfl rfl rfl rfl sz_97 (Nat.le_of_ble_eq_true rfl) ?_)
    refine AL.no ?_
    refine AL.nil ?_
    change AW _ _ _ _ _
    refine AW.region ?_
    refine AL.nilbx 0 9 9 102 4 rfl rfl rfl (by decide) ?_
    refine AL.no ?_
    refine AL.r (rd_move rfl rfl) ?_
    refine AL.r (rd_nilc_bx rfl rfl rfl) ?_
    refine AL.r (rd_faddr_bx rfl fo_99_4 rfl rfl ⟨_, _, rfl⟩) ?_
    refine AL.op rfl (op_store rfl rfl rfl rfl rfl rfl sz_3 (Nat.le_of_ble_eq_true rfl) ?_)
    refine AL.no ?_
    refine AL.nil ?_
    repeat with_reducible first | refine thenA_ret ?_ | refine inBlockA_ret ?_
    with_reducible first | refine retO_ret ?_ | refine retO_normal ?_
    refine reso0 rfl (Nat.le_of_ble_eq_true rfl) (by simp only [cleanS, cle_owM, cle_own, cle_nown, cle_obj, cle_off, cle_box, okC, liveA, List.take_succ_cons, List.take_zero, List.all_cons, List.all_nil, List.getElem?_cons_zero, List.getElem?_cons_succ, isO_owM, isO_own, isO_nown, TC.isB, beq_self_eq_true, Bool.and_self, Bool.and_true, ok1, ok2, List.map_cons, List.map_nil])   ?_
    first | (have e := hJ.stop (by omega); exact ⟨by first | rfl | (rw [e.1]; done) | (rw [e.1]; rfl), by rw [e.2]; exact ⟨_, _, _, _, _, _, _, _, _, by first | rfl | (simp only [diskT, pushD, cutD1, Int.toNat_natCast, List.map_append, List.map_cons, List.map_nil, DeedD.cs]; rfl)⟩⟩) | (have e := hJ.brk (by omega) h21; exact ⟨by first | rfl | (rw [e.1]; done) | (rw [e.1]; rfl), by rw [e.2]; exact ⟨_, _, _, _, _, _, _, _, _, by first | rfl | (simp only [diskT, pushD, cutD1, Int.toNat_natCast, List.map_append, List.map_cons, List.map_nil, DeedD.cs]; rfl)⟩⟩)
end
end Go.Proofs.Ytgjpeldgjpgbcaa
