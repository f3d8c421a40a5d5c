/- Pools: the document's answer of what a vector lacks; a pool filled by ops; walked over abstract states. No conditions. -/
import Derived.Test.YtfjnkhanndkpfaaPlP
import Derived.Test.YtfjnkhanndkpfaaCut
namespace Go.Proofs.Ytfjnkhanndkpfaa
set_option linter.unusedSimpArgs false
set_option linter.unusedVariables false
set_option maxRecDepth 100000
set_option maxRecDepth 100000
open Go.RowKit

theorem snext_t {s : List OpD} {q : OpD → Bool} {n : Int} {k : Nat} (hk : k < s.length) (hq : q s[k] = true) (h : ((((s.take k).filter q).take n.toNat).length : Int) < n) : ((s.take (k + 1)).filter q).take n.toNat = ((s.take k).filter q).take n.toNat ++ [s[k]] := by
  have hl : ((s.take k).filter q).length < n.toNat := by rw [List.length_take] at h; omega
  rw [List.take_succ_eq_append_getElem hk, List.filter_append, List.filter_cons_of_pos hq, List.filter_nil]
  generalize (s.take k).filter q = A at hl
  have e1 : (A ++ [s[k]]).take n.toNat = A ++ [s[k]] := List.take_of_length_le (by simp; omega)
  have e2 : A.take n.toNat = A := List.take_of_length_le (by omega)
  rw [e1, e2]
theorem lack_of {v : VecD} {x : OpD} (h : hasV v x.id = false) : lackV v x = true := by unfold lackV; rw [h]; rfl
theorem lack_no {v : VecD} {x : OpD} (h : hasV v x.id = true) : lackV v x = false := by unfold lackV; rw [h]; rfl
theorem snext_n {s : List OpD} {q : OpD → Bool} {n : Int} {k : Nat} (hk : k < s.length) (hq : q s[k] = false) : ((s.take (k + 1)).filter q).take n.toNat = ((s.take k).filter q).take n.toNat := by
  rw [List.take_succ_eq_append_getElem hk, List.filter_append, List.filter_cons_of_neg (by rw [hq]; decide), List.filter_nil, List.append_nil]
theorem snext_f {s : List OpD} {q : OpD → Bool} {n : Int} {k : Nat} (hk : k < s.length) (h : ¬ ((((s.take k).filter q).take n.toNat).length : Int) < n) : ((s.take (k + 1)).filter q).take n.toNat = ((s.take k).filter q).take n.toNat := by
  rw [List.take_succ_eq_append_getElem hk, List.filter_append]
  rw [List.length_take] at h
  rw [List.take_append_of_le_length (by omega)]
def sinceR (m : List OpD) (v : VecD) (most : Int) : List OpD := ((sortO m).filter (lackV v)).take most.toNat
theorem rsince26_c (m : List OpD) (v : VecD) (most : Int) (hm : m.length ≤ 100000) : AC Try.prog 41 [.sl (m.map OpD.cs), vecA v, AI most] (fun x => x = .o 47 15 ((sinceR m v most).map OpD.cs)) := by
  have hs := sort_len m
  have hb : ∀ k, ((((sortO m).take k).filter (lackV v)).take most.toNat).length ≤ 100000 := fun k => by
    have h1 := List.length_filter_le (lackV v) ((sortO m).take k)
    simp only [List.length_take] at *
    omega
  refine AC.of' 38 4 Try.func41 rfl ?_
  change AW _ _ _ _ [TK.mk 0 .off, TK.mk 0 .off, TK.mk 0 .off, TK.mk 0 .off]
  refine AW.seq ?_
  refine AW.region ?_
  refine AL.op rfl (AOpB.op (op_box 0 rfl rfl rfl rfl rfl ?_))
  refine AL.n ?_
  refine AL.ra ?_
  refine AL.nil ?_
  change AW _ _ _ _ _
  refine AW.seq ?_
  refine AW.region ?_
  refine AL.op rfl (AOpB.op (bs_own 1 rfl ap_50 ze_47 rfl rfl rfl ?_))
  refine AL.n ?_
  refine AL.ra ?_
  refine AL.nil ?_
  change AW _ _ _ _ _
  refine AW.seq ?_
  refine AW.region ?_
  refine AL.rm ?_
  refine AL.op rfl (AOpB.op (op_call (rsorted_c m hm) rfl (by kernel_rfl) rfl (none) ?_))
  rintro r rfl
  refine AL.n ?_
  refine AL.ra ?_
  refine AL.nil ?_
  change AW _ _ _ _ _
  refine AW.seq ?_
  refine AW.seq ?_
  refine AW.region ?_
  refine AL.ra ?_
  refine AL.nil ?_
  change AW _ _ _ _ _
  refine AW.block ?_
  refine AW.loopM (ι := Nat × Nat) [13, 14, 15, 16, 17, 18, 19, 20, 21, 22, 23, 24, 25, 26, 27, 28, 29, 30, 31, 32, 33, 34, 35, 36, 37, 38, 39] (fun ⟨k, g⟩ => [(9, AI (k : Int)), (7, .ow 1 g)]) [2, 3] (fun ⟨k, g⟩ => [(1, ⟨g, .own 47 15 (((((sortO m).take k).filter (lackV v)).take most.toNat).map OpD.cs)⟩)]) (fun ⟨k, g⟩ => k ≤ (sortO m).length) (fun ⟨k, g⟩ => (sortO m).length - k) ⟨0, 1⟩ (Nat.zero_le _) (by simp only [anys, upds, offs, List.set_cons_zero, List.set_cons_succ]; repeat (first | exact Wk.nil | refine Wk.same ?_ | refine Wk.any ?_)) (by simp only [anys, upds, offs, List.set_cons_zero, List.set_cons_succ]; repeat (first | exact Sk.nil _ | refine Sk.same _ ?_ | refine Sk.scr _ (by decide) ?_ | refine Sk.eq _ (by simp) ?_)) ?_
  rintro ⟨k, g⟩ gs hJ
  refine AW.norm (by simp only [anys, upds, offs, List.set_cons_zero, List.set_cons_succ]; rfl) (by (try simp only [anys, upds, offs, List.set_cons_zero, List.set_cons_succ]); (try rfl)) ?_
  have hbk := hb k
  refine AW.seq ?_
  refine AW.seq ?_
  refine AW.region ?_
  refine AL.rm ?_
  refine AL.rm ?_
  refine AL.r (rd_len_sl rfl el_50 rfl) ?_
  refine AL.r (rd_bin rfl rfl rfl (fun _ => rfl)) ?_
  refine AL.nil ?_
  change AW _ _ _ _ _
  refine AW.cd rfl (fun h16 => ?_) (fun h16 => ?_)
  ·skip
   refine AW.skip ?_
   change AW _ _ _ _ _
   refine AW.seq ?_
   refine AW.block ?_
   refine AW.seq ?_
   refine AW.draw (by kernel_rfl) ?_
   refine AD.r 0 rfl (rd_loadN_bx rfl ag_58 rfl rfl (Nat.le_of_ble_eq_true rfl) rfl) rfl ?_
   refine AD.r 1 rfl (rd_move rfl rfl) rfl ?_
   refine AD.r 2 rfl (rd_move rfl rfl) rfl ?_
   refine AD.r 3 rfl (rd_iaddr_sl rfl el_50 rfl rfl rfl (get_mapA (by omega)) rfl) rfl ?_
   refine AD.r 4 rfl (rd_faddr_ep rfl fo_47_0 rfl) rfl ?_
   refine AD.r 5 rfl (rd_loadN_ep rfl ag_44 rfl (Nat.le_of_ble_eq_true rfl) rfl) rfl ?_
   refine AD.move 6 rfl (by kernel_rfl) rfl (op_call (rhas_c v ((sortO m)[k]'(by omega)).id) rfl (by kernel_rfl) rfl (none) ?_)
   rintro r rfl
   refine AD.n ?_
   refine AD.r 7 rfl (rd_un rfl rfl (fun _ => rfl)) rfl ?_
   refine AD.r 8 rfl (rd_move rfl rfl) rfl ?_
   refine AD.fk (d := 27) rfl (fun h27 => ?_) (fun h27 => ?_)
   ·skip
    refine AD.n ?_
    refine AD.r 9 rfl (rd_move rfl rfl) ⟨_, _, rfl, rfl, rfl⟩ ?_
    refine AD.r 10 rfl (rd_len_ow rfl el_50 rfl rfl) ⟨_, _, rfl, rfl, rfl⟩ ?_
    refine AD.r 11 rfl (rd_move rfl rfl) ⟨_, _, rfl, rfl, rfl⟩ ?_
    refine AD.r 12 rfl (rd_bin rfl rfl rfl (fun _ => rfl)) ⟨_, _, rfl, rfl, rfl⟩ ?_
    refine AD.r 13 rfl (rd_pick_t rfl rfl rfl) rfl ?_
    refine AD.done (by kernel_rfl) ?_
    change AW _ _ _ _ _
    refine AW.cd rfl (fun h32 => ?_) (fun h32 => ?_)
    ·skip
     refine AW.region ?_
     refine AL.rm ?_
     refine AL.rm ?_
     refine AL.rm ?_
     refine AL.r (rd_iaddr_sl rfl el_50 rfl rfl rfl (get_mapA (by omega)) rfl) ?_
     refine AL.r (rd_loadN_ep rfl ag_47 rfl (Nat.le_of_ble_eq_true rfl) rfl) ?_
     refine AL.op rfl (AOpB.op (bs_set rfl ap_50 ze_47 rfl rfl ?_))
     refine AL.n ?_
     refine AL.op rfl (op_append rfl ap_50 rfl rfl (src_s rfl) (by simp only [List.length_map, List.length_cons, List.length_nil]; omega) (by simp only [List.length_map, List.length_cons, List.length_nil]; omega) ?_)
     refine AL.n ?_
     refine AL.ra ?_
     refine AL.nil ?_
     change AW _ _ _ _ _
     refine AW.region ?_
     refine AL.rm ?_
     refine AL.r (rd_arith_add rfl rfl rfl (by first | exact IntWalk.i64_in _ (by omega) | rfl)) ?_
     refine AL.ra ?_
     refine AL.nil ?_
     first
       | refine ⟨⟨k + 1, g + 1⟩, ?_, ?_, ?_, ?_⟩
         ·show k + 1 ≤ (sortO m).length; omega
         ·first | omega | (simp only []; omega)
         ·simp only [anys, upds, offs, List.set_cons_zero, List.set_cons_succ]; repeat (first | exact Wk.nil | refine Wk.same ?_ | refine Wk.any ?_)
         ·simp only [anys, upds, offs, List.set_cons_zero, List.set_cons_succ]; repeat (first | exact Sk.nil _ | refine Sk.same _ ?_ | refine Sk.scr _ (by decide) ?_ | refine Sk.eq _ (by first | (rw [snext_t (by omega) (lack_of h27) h32]; simp [OpD.cs]; done) | (rw [snext_n (by omega) (lack_no h27)]; done) | (rw [snext_f (by omega) h32]; done)) ?_)
       | refine ⟨⟨k + 1, g⟩, ?_, ?_, ?_, ?_⟩
         ·show k + 1 ≤ (sortO m).length; omega
         ·first | omega | (simp only []; omega)
         ·simp only [anys, upds, offs, List.set_cons_zero, List.set_cons_succ]; repeat (first | exact Wk.nil | refine Wk.same ?_ | refine Wk.any ?_)
         ·simp only [anys, upds, offs, List.set_cons_zero, List.set_cons_succ]; repeat (first | exact Sk.nil _ | refine Sk.same _ ?_ | refine Sk.scr _ (by decide) ?_ | refine Sk.eq _ (by first | (rw [snext_t (by omega) (lack_of h27) h32]; simp [OpD.cs]; done) | (rw [snext_n (by omega) (lack_no h27)]; done) | (rw [snext_f (by omega) h32]; done)) ?_)
    ·skip
     refine AW.skip ?_
     change AW _ _ _ _ _
     refine AW.region ?_
     refine AL.rm ?_
     refine AL.r (rd_arith_add rfl rfl rfl (by first | exact IntWalk.i64_in _ (by omega) | rfl)) ?_
     refine AL.ra ?_
     refine AL.nil ?_
     refine ⟨⟨k + 1, g⟩, ?_, by first | omega | (simp only []; omega), ?_, ?_⟩
     ·show k + 1 ≤ (sortO m).length; omega
     ·simp only [anys, upds, offs, List.set_cons_zero, List.set_cons_succ]; repeat (first | exact Wk.nil | refine Wk.same ?_ | refine Wk.any ?_)
     ·simp only [anys, upds, offs, List.set_cons_zero, List.set_cons_succ]; repeat (first | exact Sk.nil _ | refine Sk.same _ ?_ | refine Sk.scr _ (by decide) ?_ | refine Sk.eq _ (by first | (rw [snext_t (by omega) (lack_of h27) h32]; simp [OpD.cs]; done) | (rw [snext_n (by omega) (lack_no h27)]; done) | (rw [snext_f (by omega) h32]; done)) ?_)
   ·skip
    refine AD.n ?_
    refine AD.s 9 rfl ⟨_, _, rfl, rfl, rfl⟩ ?_
    refine AD.s 10 rfl ⟨_, _, rfl, rfl, rfl⟩ ?_
    refine AD.s 11 rfl ⟨_, _, rfl, rfl, rfl⟩ ?_
    refine AD.s 12 rfl ⟨_, _, rfl, rfl, rfl⟩ ?_
    refine AD.r 13 rfl (rd_pick_f rfl rfl rfl) rfl ?_
    refine AD.done (by kernel_rfl) ?_
    change AW _ _ _ _ _
    refine AW.cond_f rfl ?_
    refine AW.skip ?_
    change AW _ _ _ _ _
    refine AW.region ?_
    refine AL.rm ?_
    refine AL.r (rd_arith_add rfl rfl rfl (by first | exact IntWalk.i64_in _ (by omega) | rfl)) ?_
    refine AL.ra ?_
    refine AL.nil ?_
    refine ⟨⟨k + 1, g⟩, ?_, by first | omega | (simp only []; omega), ?_, ?_⟩
    ·show k + 1 ≤ (sortO m).length; omega
    ·simp only [anys, upds, offs, List.set_cons_zero, List.set_cons_succ]; repeat (first | exact Wk.nil | refine Wk.same ?_ | refine Wk.any ?_)
    ·simp only [anys, upds, offs, List.set_cons_zero, List.set_cons_succ]; repeat (first | exact Sk.nil _ | refine Sk.same _ ?_ | refine Sk.scr _ (by decide) ?_ | refine Sk.eq _ (by first | (rw [snext_t (by omega) (lack_of h27) h32]; simp [OpD.cs]; done) | (rw [snext_n (by omega) (lack_no h27)]; done) | (rw [snext_f (by omega) h32]; done)) ?_)
  ·skip
   refine AW.exit ?_
   change AW _ _ _ _ _
   refine AW.seq ?_
   refine AW.region ?_
   refine AL.rm ?_
   refine AL.ra ?_
   refine AL.nil ?_
   change AW _ _ _ _ _
   refine AW.ret ?_
   change ResA _ _ _ _ _
   refine res1o rfl (ResV.tmp rfl) rfl ?_
   rw [List.take_of_length_le (l := sortO m) (show (sortO m).length ≤ k by omega)]; rfl
theorem Rel.since {m : List OpD} {p : PoolD} (h : Rel m p) (v : VecD) (most : Int) : sinceL p v most = sinceR m v most := by unfold sinceL sinceR; rw [h.sort]
theorem lack_zero {p : PoolD} (h : OkP p) : (catP p).filter (lackV zeroV) = catP p := by
  rw [List.filter_eq_self]
  intro x hx
  obtain ⟨i, hi, hx⟩ := mem_cat.1 hx
  have := h.mem hi hx
  unfold lackV hasV zeroV
  simp only [Bool.not_eq_true', Bool.and_eq_false_iff, decide_eq_false_iff_not]
  right; omega
theorem cat_len (p : PoolD) : (catP p).length = totP p := by
  rw [cat_eq]; unfold totP; simp; omega
theorem ops_cat {p : PoolD} (h : OkP p) : sinceL p zeroV 400 = catP p := by
  unfold sinceL
  have := h.tot
  rw [lack_zero h, List.take_of_length_le (by rw [cat_len]; unfold totP; omega)]
theorem putR_len (m : List OpD) (o : OpD) : (putR m o).1.length ≤ m.length + 1 := by
  unfold putR
  repeat' split
  all_goals simp
set_option maxHeartbeats 1000000 in
theorem filled_c (l : List OpD) (hl : l.length ≤ 100000) (h0 h1 h2 h3 h4 h5 h6 : Nat) : ACo Try.prog 33 [.sl (l.map OpD.cs)] [⟨h0, .off⟩, ⟨h1, .off⟩, ⟨h2, .off⟩, ⟨h3, .off⟩, ⟨h4, .off⟩, ⟨h5, .off⟩, ⟨h6, .off⟩]
    (fun y os' => ∃ m p, Rel m p ∧ m.length ≤ l.length ∧ y = .tu [.bx 0 (h0 + 1) 0, .sl (m.map OpD.cs), AB true] ∧ PoolAt (h0 + 1) p os') := by
  refine ACo.of' (st0 := [⟨h0, .off⟩, ⟨h1, .off⟩, ⟨h2, .off⟩, ⟨h3, .off⟩, ⟨h4, .off⟩, ⟨h5, .off⟩, ⟨h6, .off⟩, TK.mk 0 .off]) 39 1 Try.func33 rfl 7 ?_
  refine AW.seq ?_
  refine AW.region ?_
  refine AL.ra ?_
  refine AL.ra ?_
  refine AL.ra ?_
  refine AL.nil ?_
  change AW _ _ _ _ _
  refine AW.seq ?_
  refine AW.region ?_
  refine AL.op rfl (calloQ (pnew_c h0 h1 h2 h3 h4 h5 h6) [0, 1, 2, 3, 4, 5, 6] ?_)
  rintro y os' ⟨rfl, a1, a2, a3, a4, a5, a6, rfl⟩
  refine AL.noQ ?_
  refine AL.ra ?_
  refine AL.nil ?_
  change AW _ _ _ _ _
  refine AW.seq ?_
  refine AW.region ?_
  refine AL.op rfl (AOpB.op (bs_own 7 rfl ap_50 ze_47 rfl rfl rfl ?_))
  refine AL.no ?_
  refine AL.settle 11 rfl rfl (by first | rfl | exact cont_owM _ _ _ _) ?_
  refine AL.no ?_
  refine AL.ra ?_
  refine AL.nil ?_
  change AW _ _ _ _ _
  refine AW.seq ?_
  refine AW.seq ?_
  refine AW.region ?_
  refine AL.ra ?_
  refine AL.nil ?_
  change AW _ _ _ _ _
  refine AW.block ?_
  refine AW.loopM (ι := Nat × List OpD × PoolD × Nat × Nat × Nat × Nat × Nat × Nat) [2, 3, 4, 8, 9, 12, 13, 14, 15, 16, 17, 18, 19, 20, 21, 22, 23, 24, 25, 26, 27, 28, 29, 30, 31, 32, 33, 34, 35, 36, 37] (fun ⟨j, m, p, b1, b2, b3, b4, b5, b6⟩ => [(7, AI (j : Int)), (6, .sl (m.map OpD.cs))]) [] (fun ⟨j, m, p, b1, b2, b3, b4, b5, b6⟩ => [(0, ⟨h0 + 1, .box 114 [.ow 1 b1, .ow 2 b2, .ow 3 b3, .ow 4 b4, .ow 5 b5, .ow 6 b6]⟩), (1, ⟨b1, owM true 47 15 ((p 0).map OpD.cs)⟩), (2, ⟨b2, owM true 47 15 ((p 1).map OpD.cs)⟩), (3, ⟨b3, owM true 47 15 ((p 2).map OpD.cs)⟩), (4, ⟨b4, owM true 47 15 ((p 3).map OpD.cs)⟩), (5, ⟨b5, owM true 47 15 ((p 4).map OpD.cs)⟩), (6, ⟨b6, owM true 47 15 ((p 5).map OpD.cs)⟩)]) (fun ⟨j, m, p, b1, b2, b3, b4, b5, b6⟩ => j ≤ l.length ∧ Rel m p ∧ m.length ≤ j) (fun ⟨j, m, p, b1, b2, b3, b4, b5, b6⟩ => l.length - j) ⟨0, [], newP, a1, a2, a3, a4, a5, a6⟩ (⟨Nat.zero_le _, .nil, Nat.zero_le _⟩) (by simp only [anys, upds, offs, List.set_cons_zero, List.set_cons_succ]; repeat (first | exact Wk.nil | refine Wk.same ?_ | refine Wk.any ?_)) (by simp only [anys, upds, offs, List.set_cons_zero, List.set_cons_succ]; repeat (first | exact Sk.nil _ | refine Sk.same _ ?_ | refine Sk.scr _ (by decide) ?_)) ?_
  rintro ⟨j, m, p, b1, b2, b3, b4, b5, b6⟩ gs hJ
  refine AW.norm (by simp only [anys, upds, offs, List.set_cons_zero, List.set_cons_succ]; rfl) (by (try simp only [anys, upds, offs, List.set_cons_zero, List.set_cons_succ]); (try rfl)) ?_
  obtain ⟨hj, hR, hml⟩ := hJ
  refine AW.seq ?_
  refine AW.seq ?_
  refine AW.region ?_
  refine AL.rm ?_
  refine AL.rm ?_
  refine AL.r (rd_len_sl rfl el_50 rfl) ?_
  refine AL.r (rd_bin rfl rfl rfl (fun _ => rfl)) ?_
  refine AL.nil ?_
  change AW _ _ _ _ _
  refine AW.cd rfl (fun h15 => ?_) (fun h15 => ?_)
  ·skip
   refine AW.skip ?_
   change AW _ _ _ _ _
   refine AW.seq ?_
   refine AW.block ?_
   refine AW.seq ?_
   refine AW.region ?_
   refine AL.rm ?_
   refine AL.rm ?_
   refine AL.rm ?_
   refine AL.r (rd_iaddr_sl rfl el_50 rfl rfl rfl (get_mapA (by omega)) rfl) ?_
   refine AL.r (rd_loadN_ep rfl ag_47 rfl (Nat.le_of_ble_eq_true rfl) rfl) ?_
   refine AL.op rfl (AOpB.op (op_call (rput26_c m (l[j]'(by omega))) rfl (by kernel_rfl) rfl (none) ?_))
   rintro r rfl
   refine AL.no ?_
   refine AL.rm ?_
   refine AL.r (rd_extract rfl rfl rfl) ?_
   refine AL.r (rd_extract rfl rfl rfl) ?_
   refine AL.ra ?_
   refine AL.ra ?_
   refine AL.nil ?_
   change AW _ _ _ _ _
   refine AW.seq ?_
   refine AW.seq ?_
   refine AW.region ?_
   refine AL.rm ?_
   refine AL.rm ?_
   refine AL.rm ?_
   refine AL.r (rd_iaddr_sl rfl el_50 rfl rfl rfl (get_mapA (by omega)) rfl) ?_
   refine AL.r (rd_loadN_ep rfl ag_47 rfl (Nat.le_of_ble_eq_true rfl) rfl) ?_
   refine AL.op rfl (calloQ (pput_c p (h0 + 1) b1 b2 b3 b4 b5 b6 hR.ok (l[j]'(by omega))) [0, 1, 2, 3, 4, 5, 6] ?_)
   rintro y os' ⟨rfl, c1, c2, c3, c4, c5, c6, rfl⟩
   refine AL.noQ ?_
   refine AL.rm ?_
   refine AL.r (rd_bin rfl rfl rfl (fun _ => rfl)) ?_
   refine AL.nil ?_
   change AW _ _ _ _ _
   refine AW.cd rfl (fun h34 => ?_) (fun h34 => ?_)
   ·skip
    exact (h34 (hR.put _).1.symm).elim
   ·skip
    refine AW.skip ?_
    change AW _ _ _ _ _
    refine AW.region ?_
    refine AL.rm ?_
    refine AL.ra ?_
    refine AL.nil ?_
    change AW _ _ _ _ _
    refine AW.region ?_
    refine AL.rm ?_
    refine AL.r (rd_arith_add rfl rfl rfl (by first | exact IntWalk.i64_in _ (by omega) | rfl)) ?_
    refine AL.ra ?_
    refine AL.nil ?_
    refine ⟨⟨j + 1, (putR m (l[j]'(by omega))).1, putP p (l[j]'(by omega)), c1, c2, c3, c4, c5, c6⟩, ?_, by first | omega | (simp only []; omega), ?_, ?_⟩
    ·exact ⟨by omega, (hR.put _).2, by have := putR_len m (l[j]'(by omega)); omega⟩
    ·simp only [anys, upds, offs, List.set_cons_zero, List.set_cons_succ]; repeat (first | exact Wk.nil | refine Wk.same ?_ | refine Wk.any ?_)
    ·simp only [anys, upds, offs, List.set_cons_zero, List.set_cons_succ]; repeat (first | exact Sk.nil _ | refine Sk.same _ ?_ | refine Sk.scr _ (by decide) ?_)
  ·skip
   refine AW.exit ?_
   change AW _ _ _ _ _
   refine AW.seq ?_
   refine AW.region ?_
   refine AL.rm ?_
   refine AL.rm ?_
   refine AL.ra ?_
   refine AL.ra ?_
   refine AL.ra ?_
   refine AL.nil ?_
   change AW _ _ _ _ _
   refine AW.ret ?_
   repeat with_reducible first | refine thenA_ret ?_ | refine inBlockA_ret ?_
   with_reducible first | refine retO_ret ?_ | refine retO_normal ?_
   refine reso3Q rfl (ResV.tmp rfl) (resO_bx (by decide) rfl) (ResV.tmp rfl) rfl (ResV.tmp rfl) rfl ?_
   exact ⟨m, p, hR, by omega, rfl, b1, b2, b3, b4, b5, b6, rfl⟩
end Go.Proofs.Ytfjnkhanndkpfaa
