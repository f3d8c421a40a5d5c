/- A part of a proof. -/
import Derived.Test.YtlapcfnmmpbeeaaPT26
set_option linter.unusedSimpArgs false
set_option linter.unusedVariables false
namespace Go.Proofs.Ytlapcfnmmpbeeaa
set_option maxRecDepth 100000
set_option maxRecDepth 100000
open Go.RowKit
structure RdrD.Of (r s : RdrD) : Prop where
  ok : s.Ok
  b : s.b = r.b
  f : s.f = r.f
theorem RdrD.Of.trans {r s t : RdrD} (h : r.Of s) (k : s.Of t) : r.Of t := ⟨k.ok, k.b.trans h.b, k.f.trans h.f⟩
theorem RdrD.Ok.of {r : RdrD} (h : r.Ok) : r.Of r := ⟨h, rfl, rfl⟩
theorem RdrD.Ok.spoil {r : RdrD} (h : r.Ok) : r.Of (spoilP r) := ⟨⟨h.len, h.lo, h.hi⟩, rfl, rfl⟩
theorem RdrD.Ok.num {r : RdrD} (h : r.Ok) : r.Of (numP r).2 := ⟨(numP_ok h).1, (numP_ok h).2.1, (numP_ok h).2.2.1⟩
theorem RdrD.Ok.count {r : RdrD} (h : r.Ok) (most : Int) : r.Of (countP r most).2 := by
  unfold countP
  split
  · exact h.num.trans h.num.ok.spoil
  exact h.num
theorem RdrD.Ok.text {r : RdrD} (h : r.Ok) (most : Int) : r.Of (rtextP r most).2 := by
  obtain ⟨a, b, c, d⟩ := textR_ok h most
  unfold rtextP
  cases hb : badP (textR r most) with
  | true => rw [if_pos rfl]; exact ⟨a, b, c⟩
  | false =>
    rw [if_neg (by decide)]
    obtain ⟨d1, d2, d3⟩ := d hb
    have := a.lo
    exact ⟨⟨a.len, by simp only []; omega, by simp only [b]; exact d3⟩, b, c⟩
theorem left_some {r : RdrD} (h : r.Ok) (h1 : 1 ≤ leftP r) : ∃ c, r.b[r.at_.toNat]? = some c ∧ r.at_.toNat < r.b.length ∧ badP r = false := by
  have := h.lo
  unfold leftP at h1
  split at h1
  · omega
  rename_i h2
  exact ⟨_, List.getElem?_eq_getElem (by omega), by omega, by simpa using h2⟩
theorem get_byA {l : List UInt8} {n : Nat} {c : UInt8} (h : l[n]? = some c) : (byA l)[n]? = some [.sc (bv c)] := by unfold byA; rw [List.getElem?_map, h]; rfl
theorem flag_bad {r : RdrD} (h : r.Ok) (h1 : leftP r < 1 ∨ ∃ c, r.b[r.at_.toNat]? = some c ∧ 1 < c.toNat) : rflagP r = (false, spoilP r) := by
  unfold rflagP
  split
  · rfl
  rcases h1 with h1 | ⟨c, hc, h2⟩
  · contradiction
  rw [hc]; simp only []; rw [if_pos h2]
theorem flag_good {r : RdrD} {c : UInt8} (h1 : ¬ leftP r < 1) (hc : r.b[r.at_.toNat]? = some c) (h2 : ¬ 1 < c.toNat) : rflagP r = (c.toNat == 1, { r with at_ := r.at_ + 1 }) := by
  unfold rflagP
  rw [if_neg h1, hc]; simp only []; rw [if_neg h2]
theorem u8_one (c : UInt8) : (((c.toNat : Nat) : Int) == 1) = (c.toNat == 1) := by
  by_cases h : c.toNat = 1
  · simp [h]
  have : ¬ ((c.toNat : Nat) : Int) = 1 := by omega
  rw [beq_eq_false_iff_ne.2 this, beq_eq_false_iff_ne.2 h]
theorem RdrD.Ok.flag {r : RdrD} (h : r.Ok) : r.Of (rflagP r).2 := by
  have h0 := h.lo
  unfold rflagP
  split
  · exact h.spoil
  rename_i h1
  obtain ⟨c, hc, hl, _⟩ := left_some h (by omega)
  rw [hc]
  simp only []
  split
  · exact h.spoil
  exact ⟨⟨h.len, by simp only []; omega, by simp only []; omega⟩, rfl, rfl⟩
theorem RdrD.Ok.tag {r : RdrD} (h : r.Ok) : r.Of (rtagP r).2 := by
  have := h.num.trans h.num.ok.num
  unfold rtagP
  split <;> exact this
theorem RdrD.Ok.ref {r : RdrD} (h : r.Ok) : r.Of (rrefP r).2 := by
  have := (h.num.trans (h.num.ok.text 12)).trans ((h.num.ok.text 12).ok.text 12)
  unfold rrefP
  split <;> exact this
section
variable (g : Nat) (r : RdrD)
theorem rflag_c (h : r.Ok) : ACo Try.prog 59 [.bx 0 g 0] (RdrT g r) (fun y os' => y = AB (rflagP r).1 ∧ os' = RdrT g (rflagP r).2) := by
  have q1 := h.len; have q2 := h.lo; have q3 := h.hi
  have hb := byA_len r.b
  obtain ⟨c, hcc⟩ : ∃ c, 1 ≤ leftP r → r.b[r.at_.toNat]? = some c ∧ r.at_.toNat < r.b.length ∧ badP r = false := by
    by_cases h1 : 1 ≤ leftP r
    · obtain ⟨c, hc⟩ := left_some h h1
      exact ⟨c, fun _ => hc⟩
    exact ⟨0, fun h => absurd h h1⟩
  refine ACo.of' (st0 := [⟨g, .box 101 [.sl (byA r.b), .sc (.int .i64 r.f), .sc (.int .i64 r.at_), .sc (.bool r.bad)]⟩]) 40 0 Try.func59 rfl 1 ?_; refine AW.g (AL.ra ?_); refine AL.nil (AW.seq (AW.seq (AW.drawA (by kernel_rfl) ?_))); refine ADA.r 0 rfl (ARdP.a (rdP_move rfl rfl)) rfl ?_; refine ADA.b ?_; refine ADB.mv 1 rfl (calloR (rleft_c g r h) [0] ?_); rintro y os' ⟨rfl, rfl⟩; refine ADB.noR ?_; refine ADB.r 2 rfl (rdP_bin rfl rfl rfl (fun _ => rfl)) rfl ?_; refine ADB.r 3 rfl (rdP_move rfl rfl) rfl ?_; refine ADB.fk (d := 7) rfl (fun h7 => ?_) (fun h7 => ?_)
  ·refine ADB.n ?_; refine ADB.s 4 rfl ⟨_, _, rfl, rfl, rfl⟩ ?_; refine ADB.s 5 rfl ⟨_, _, rfl, rfl, rfl⟩ ?_; refine ADB.s 6 rfl ⟨_, _, rfl, rfl, rfl⟩ ?_; refine ADB.s 7 rfl ⟨_, _, rfl, rfl, rfl⟩ ?_; refine ADB.s 8 rfl ⟨_, _, rfl, rfl, rfl⟩ ?_; refine ADB.s 9 rfl ⟨_, _, rfl, rfl, rfl⟩ ?_; refine ADB.s 10 rfl ⟨_, _, rfl, rfl, rfl⟩ ?_; refine ADB.s 11 rfl ⟨_, _, rfl, rfl, rfl⟩ ?_; refine ADB.s 12 rfl ⟨_, _, rfl, rfl, rfl⟩ ?_; refine ADB.s 13 rfl ⟨_, _, rfl, rfl, rfl⟩ ?_; refine ADB.s 14 rfl ⟨_, _, rfl, rfl, rfl⟩ ?_; refine ADB.r 15 rfl (rdP_pick_t rfl rfl rfl) rfl ?_; refine ADB.done (by kernel_rfl) ?_; change AW _ _ _ _ _; refine AW.cond_t rfl (AW.g (AL.rm ?_)); refine AL.oq (calloR (rspoil_c g r) [0] ?_); rintro y os' ⟨rfl, rfl⟩; refine AL.noR ?_; refine AL.nil (AW.g (AL.ra ?_)); refine AL.nil ?_
   change AW _ _ _ _ _; refine AW.ret ?_
   repeat with_reducible first | refine thenA_ret ?_ | refine inBlockA_ret ?_
   with_reducible first | refine retO_ret ?_ | refine retO_normal ?_
   refine reso1R rfl (ResV.tmp rfl) rfl ?_
   first | (rw [flag_bad h (.inl h7)]; exact ⟨rfl, rfl⟩) | (rw [flag_bad h (.inr ⟨c, (hcc (by omega)).1, Int.ofNat_lt.1 h19⟩)]; exact ⟨rfl, rfl⟩)
  refine ADB.n ?_; refine ADB.r 4 rfl (rdP_move rfl rfl) ⟨_, _, rfl, rfl, rfl⟩ ?_; refine ADB.r 5 rfl (rdP_nilc_bx rfl rfl rfl) ⟨_, _, rfl, rfl, rfl⟩ ?_; refine ADB.r 6 rfl (rdP_faddr_bx rfl fo_101_0 rfl rfl ⟨_, _, rfl⟩) ⟨_, _, rfl, rfl, rfl⟩ ?_; refine ADB.r 8 rfl (rdP_move rfl rfl) ⟨_, _, rfl, rfl, rfl⟩ ?_; refine ADB.r 9 rfl (rdP_nilc_bx rfl rfl rfl) ⟨_, _, rfl, rfl, rfl⟩ ?_; refine ADB.r 10 rfl (rdP_faddr_bx rfl fo_101_2 rfl rfl ⟨_, _, rfl⟩) ⟨_, _, rfl, rfl, rfl⟩ ?_; refine ADB.all (is := [7, 11]) (by kernel_rfl) (by simp) ?_; intro i hi; simp only [List.mem_cons, List.not_mem_nil, or_false] at hi
  rcases hi with rfl | rfl
  ·refine ⟨_, rfl, ⟨_, _, rfl, rfl, rfl⟩, AOpB.op (ARd.opB (ql ag_35) ?_)⟩; refine ADB.n ?_; refine ADB.mv 11 rfl (AOpB.op (ARd.opB (ql ag_3) ?_)); refine ADB.n ?_; refine ADB.r 12 rfl (rdP_iaddr_sl rfl el_35 rfl rfl (Int.toNat_of_nonneg q2).symm (get_byA (hcc (by omega)).1) rfl) ⟨_, _, rfl, rfl, rfl⟩ ?_; refine ADB.mv 13 rfl (AOpB.op (ARd.opB (rd_load_ep rfl ag_5 rfl rfl) ?_)); refine ADB.n ?_; refine ADB.r 14 rfl (rdP_bin rfl rfl rfl (fun _ => rfl)) ⟨_, _, rfl, rfl, rfl⟩ ?_; refine ADB.r 15 rfl (rdP_pick_f rfl rfl rfl) rfl ?_; refine ADB.done (by kernel_rfl) ?_; change AW _ _ _ _ _; refine AW.cd rfl (fun h19 => ?_) (fun h19 => ?_)
   ·refine AW.g (AL.rm ?_); refine AL.oq (calloR (rspoil_c g r) [0] ?_); rintro y os' ⟨rfl, rfl⟩; refine AL.noR ?_; refine AL.nil (AW.g (AL.ra ?_)); refine AL.nil (AW.ret ?_)
    repeat with_reducible first | refine thenA_ret ?_ | refine inBlockA_ret ?_
    with_reducible first | refine retO_ret ?_ | refine retO_normal ?_
    refine reso1R rfl (ResV.tmp rfl) rfl ?_
    first | (rw [flag_bad h (.inl h7)]; exact ⟨rfl, rfl⟩) | (rw [flag_bad h (.inr ⟨c, (hcc (by omega)).1, Int.ofNat_lt.1 h19⟩)]; exact ⟨rfl, rfl⟩)
   refine AW.skip (AW.seq (AW.draw (by kernel_rfl) ?_)); refine AD.r 0 rfl (rd_move rfl rfl) rfl ?_; refine AD.r 1 rfl (rd_nilc_bx rfl rfl rfl) rfl ?_; refine AD.r 2 rfl (qa fo_101_0) rfl ?_; refine AD.r 3 rfl (ql ag_35) rfl ?_; refine AD.r 4 rfl (rd_move rfl rfl) rfl ?_; refine AD.r 5 rfl (rd_nilc_bx rfl rfl rfl) rfl ?_; refine AD.r 6 rfl (qa fo_101_2) rfl ?_; refine AD.r 7 rfl (ql ag_3) rfl ?_; refine AD.r 8 rfl (rd_iaddr_sl rfl el_35 rfl rfl (Int.toNat_of_nonneg q2).symm (get_byA (hcc (by omega)).1) rfl) rfl ?_; refine AD.r 9 rfl (rd_load_ep rfl ag_5 rfl rfl) rfl ?_; refine AD.r 10 rfl qb rfl ?_; refine AD.r 11 rfl (rd_assign rfl rfl) rfl ?_; refine AD.done (by kernel_rfl) ?_; change AW _ _ _ _ _; refine AW.g ?_; obtain ⟨hc, hl, _⟩ := hcc (by omega); refine AL.rm ?_; refine AL.r (rd_nilc_bx rfl rfl rfl) ?_; refine AL.r (qa fo_101_2) ?_; refine AL.r (ql ag_3) ?_; refine AL.r (rd_arith_add rfl rfl rfl (IntWalk.i64_in _ (by omega))) ?_; refine AL.r (rd_nilc_bx rfl rfl rfl) ?_; refine AL.r (qa fo_101_2) ?_; refine AL.oq (oS sz_3 ?_); refine AL.no ?_; refine AL.nil (AW.g (AL.rm ?_)); refine AL.ra ?_; refine AL.nil (AW.ret ?_)
   repeat with_reducible first | refine thenA_ret ?_ | refine inBlockA_ret ?_
   with_reducible first | refine retO_ret ?_ | refine retO_normal ?_
   refine reso1R rfl (ResV.tmp rfl) rfl ?_; rw [flag_good (c := c) (by omega) hc (by omega)]; exact ⟨congrArg AB (u8_one c), rfl⟩
  refine ⟨_, rfl, ⟨_, _, rfl, rfl, rfl⟩, AOpB.op (ARd.opB (ql ag_3) ?_)⟩; refine ADB.n ?_; refine ADB.mv 7 rfl (AOpB.op (ARd.opB (ql ag_35) ?_)); refine ADB.n ?_; refine ADB.r 12 rfl (rdP_iaddr_sl rfl el_35 rfl rfl (Int.toNat_of_nonneg q2).symm (get_byA (hcc (by omega)).1) rfl) ⟨_, _, rfl, rfl, rfl⟩ ?_; refine ADB.mv 13 rfl (AOpB.op (ARd.opB (rd_load_ep rfl ag_5 rfl rfl) ?_)); refine ADB.n ?_; refine ADB.r 14 rfl (rdP_bin rfl rfl rfl (fun _ => rfl)) ⟨_, _, rfl, rfl, rfl⟩ ?_; refine ADB.r 15 rfl (rdP_pick_f rfl rfl rfl) rfl ?_; refine ADB.done (by kernel_rfl) ?_; change AW _ _ _ _ _; refine AW.cd rfl (fun h19 => ?_) (fun h19 => ?_)
  ·refine AW.g (AL.rm ?_); refine AL.oq (calloR (rspoil_c g r) [0] ?_); rintro y os' ⟨rfl, rfl⟩; refine AL.noR ?_; refine AL.nil (AW.g (AL.ra ?_)); refine AL.nil (AW.ret ?_)
   repeat with_reducible first | refine thenA_ret ?_ | refine inBlockA_ret ?_
   with_reducible first | refine retO_ret ?_ | refine retO_normal ?_
   refine reso1R rfl (ResV.tmp rfl) rfl ?_
   first | (rw [flag_bad h (.inl h7)]; exact ⟨rfl, rfl⟩) | (rw [flag_bad h (.inr ⟨c, (hcc (by omega)).1, Int.ofNat_lt.1 h19⟩)]; exact ⟨rfl, rfl⟩)
  refine AW.skip (AW.seq (AW.draw (by kernel_rfl) ?_)); refine AD.r 0 rfl (rd_move rfl rfl) rfl ?_; refine AD.r 1 rfl (rd_nilc_bx rfl rfl rfl) rfl ?_; refine AD.r 2 rfl (qa fo_101_0) rfl ?_; refine AD.r 3 rfl (ql ag_35) rfl ?_; refine AD.r 4 rfl (rd_move rfl rfl) rfl ?_; refine AD.r 5 rfl (rd_nilc_bx rfl rfl rfl) rfl ?_; refine AD.r 6 rfl (qa fo_101_2) rfl ?_; refine AD.r 7 rfl (ql ag_3) rfl ?_; refine AD.r 8 rfl (rd_iaddr_sl rfl el_35 rfl rfl (Int.toNat_of_nonneg q2).symm (get_byA (hcc (by omega)).1) rfl) rfl ?_; refine AD.r 9 rfl (rd_load_ep rfl ag_5 rfl rfl) rfl ?_; refine AD.r 10 rfl qb rfl ?_; refine AD.r 11 rfl (rd_assign rfl rfl) rfl ?_; refine AD.done (by kernel_rfl) ?_; change AW _ _ _ _ _; refine AW.g ?_; obtain ⟨hc, hl, _⟩ := hcc (by omega); refine AL.rm ?_; refine AL.r (rd_nilc_bx rfl rfl rfl) ?_; refine AL.r (qa fo_101_2) ?_; refine AL.r (ql ag_3) ?_; refine AL.r (rd_arith_add rfl rfl rfl (IntWalk.i64_in _ (by omega))) ?_; refine AL.r (rd_nilc_bx rfl rfl rfl) ?_; refine AL.r (qa fo_101_2) ?_; refine AL.oq (oS sz_3 ?_); refine AL.no ?_; refine AL.nil (AW.g (AL.rm ?_)); refine AL.ra ?_; refine AL.nil (AW.ret ?_)
  repeat with_reducible first | refine thenA_ret ?_ | refine inBlockA_ret ?_
  with_reducible first | refine retO_ret ?_ | refine retO_normal ?_
  refine reso1R rfl (ResV.tmp rfl) rfl ?_; rw [flag_good (c := c) (by omega) hc (by omega)]; exact ⟨congrArg AB (u8_one c), rfl⟩
theorem rdtag_c (h : r.Ok) : ACo Try.prog 28 [.bx 0 g 0] (RdrT g r) (fun y os' => y = (rtagP r).1.av ∧ os' = RdrT g (rtagP r).2) := by
  refine ACo.of' (st0 := [⟨g, .box 101 [.sl (byA r.b), .sc (.int .i64 r.f), .sc (.int .i64 r.at_), .sc (.bool r.bad)]⟩, TK.mk 0 .off, TK.mk 0 .off]) 12 2 Try.func28 rfl 1 ?_; refine AW.g (AL.oq (AOpB.op (oA 1 ze_51 ?_))); refine AL.no ?_; refine AL.nil (AW.g (AL.rm ?_)); refine AL.oq (calloR (rnum_c g r h) [0] ?_); rintro y os' ⟨rfl, rfl⟩; refine AL.noR ?_; refine AL.rm ?_; refine AL.oq (calloR (rnum_c g (numP r).2 h.num.ok) [0] ?_); rintro y os' ⟨rfl, rfl⟩; refine AL.noR ?_; refine AL.r (qB pl_51 ze_51) ?_; refine AL.oq (AOpB.op (oA 2 ze_51 ?_)); refine AL.no ?_; refine AL.oq (oS sz_51 ?_); refine AL.no ?_; refine AL.nil (AW.seq (AW.g (AL.rm ?_))); refine AL.oq (calloR (rbad_c g (numP (numP r).2).2) [0] ?_); rintro y os' ⟨rfl, rfl⟩; refine AL.noR ?_; refine AL.nil (AW.cd rfl (fun h10 => ?_) (fun h10 => ?_))
  ·refine AW.g (AL.r (qB pl_51 ze_51) ?_); refine AL.oq (oS sz_51 ?_); refine AL.no ?_; refine AL.nil (AW.ret ?_)
   repeat with_reducible first | refine thenA_ret ?_ | refine inBlockA_ret ?_
   with_reducible first | refine retO_ret ?_ | refine retO_normal ?_
   refine reso1R rfl (ResV.cells rfl rfl ag_51 (Nat.le_of_ble_eq_true rfl) rfl) rfl ?_; simp_all [rtagP, RdrT, TagD.cs]
  refine AW.skip (AW.g (AL.r (qN ag_51) ?_)); refine AL.oq (oS sz_51 ?_); refine AL.no ?_; refine AL.nil (AW.ret ?_)
  repeat with_reducible first | refine thenA_ret ?_ | refine inBlockA_ret ?_
  with_reducible first | refine retO_ret ?_ | refine retO_normal ?_
  refine reso1R rfl (ResV.cells rfl rfl ag_51 (Nat.le_of_ble_eq_true rfl) rfl) rfl ?_; simp_all [rtagP, RdrT, TagD.cs]
theorem rdref_c (h : r.Ok) : ACo Try.prog 58 [.bx 0 g 0] (RdrT g r) (fun y os' => y = (rrefP r).1.av ∧ os' = RdrT g (rrefP r).2) := by
  refine ACo.of' (st0 := [⟨g, .box 101 [.sl (byA r.b), .sc (.int .i64 r.f), .sc (.int .i64 r.at_), .sc (.bool r.bad)]⟩, TK.mk 0 .off, TK.mk 0 .off]) 16 2 Try.func58 rfl 1 ?_; refine AW.g (AL.oq (AOpB.op (oA 1 ze_55 ?_))); refine AL.no ?_; refine AL.nil (AW.g (AL.oq (AOpB.op (oA 2 ze_55 ?_)))); refine AL.no ?_; refine AL.nil (AW.g (AL.rm ?_)); refine AL.oq (calloR (rnum_c g r h) [0] ?_); rintro y os' ⟨rfl, rfl⟩; refine AL.noR ?_; refine AL.r (qa fo_55_0) ?_; refine AL.oq (oS sz_3 ?_); refine AL.no ?_; refine AL.nil (AW.g (AL.rm ?_)); refine AL.oq (calloR (rtext_c g (numP r).2 h.num.ok 12) [0] ?_); rintro y os' ⟨rfl, rfl⟩; refine AL.noR ?_; refine AL.r (qa fo_55_1) ?_; refine AL.oq (oS sz_9 ?_); refine AL.no ?_; refine AL.nil (AW.g (AL.rm ?_)); refine AL.oq (calloR (rtext_c g (rtextP (numP r).2 12).2 (h.num.ok.text 12).ok 12) [0] ?_); rintro y os' ⟨rfl, rfl⟩; refine AL.noR ?_; refine AL.r (qa fo_55_2) ?_; refine AL.oq (oS sz_9 ?_); refine AL.no ?_; refine AL.nil (AW.seq (AW.g (AL.rm ?_))); refine AL.oq (calloR (rbad_c g (rtextP (rtextP (numP r).2 12).2 12).2) [0] ?_); rintro y os' ⟨rfl, rfl⟩; refine AL.noR ?_; refine AL.nil (AW.cd rfl (fun h14 => ?_) (fun h14 => ?_))
  ·refine AW.g (AL.r (qB pl_55 ze_55) ?_); refine AL.oq (oS sz_55 ?_); refine AL.no ?_; refine AL.nil (AW.ret ?_)
   repeat with_reducible first | refine thenA_ret ?_ | refine inBlockA_ret ?_
   with_reducible first | refine retO_ret ?_ | refine retO_normal ?_
   refine reso1R rfl (ResV.cells rfl rfl ag_55 (Nat.le_of_ble_eq_true rfl) rfl) rfl ?_; simp_all [rrefP, RdrT, RefD.cs]
  refine AW.skip (AW.g (AL.r (qN ag_55) ?_)); refine AL.oq (oS sz_55 ?_); refine AL.no ?_; refine AL.nil (AW.ret ?_)
  repeat with_reducible first | refine thenA_ret ?_ | refine inBlockA_ret ?_
  with_reducible first | refine retO_ret ?_ | refine retO_normal ?_
  refine reso1R rfl (ResV.cells rfl rfl ag_55 (Nat.le_of_ble_eq_true rfl) rfl) rfl ?_; simp_all [rrefP, RdrT, RefD.cs]
end
def newR (b : List UInt8) (f : Int) : RdrD := ⟨b, f, 0, !okF f⟩
theorem newR_ok {b : List UInt8} (hb : b.length ≤ 549755813888) (f : Int) : (newR b f).Ok := ⟨by simp only [newR]; omega, Int.le_refl _, by simp only [newR]; omega⟩
theorem rnew_c (b : List UInt8) (hb : b.length ≤ 549755813888) (f : Int) (h : Nat) : ACo Try.prog 24 [.sl (byA b), .sc (.int .i64 f)] [⟨h, .off⟩] (fun y os' => y = .bx 0 (h + 1) 0 ∧ os' = RdrT (h + 1) (newR b f)) := by
  refine ACo.of' (st0 := [⟨h, .off⟩, TK.mk 0 .off]) 11 1 Try.func24 rfl 1 ?_; refine AW.g (AL.ra ?_); refine AL.nil (AW.g (AL.rm ?_)); refine AL.cl (join_c b [] (by omega) (by simp)) ?_; refine AL.no ?_; rw [List.append_nil]; (iterate 2 refine AL.rm ?_); refine AL.cl (cright_c f) ?_; refine AL.no ?_; refine AL.r qu ?_; refine AL.r (qB pl_101 ze_101) ?_; refine AL.oq (AOpB.op (oB 0 ?_)); refine AL.no ?_; refine AL.ra ?_; refine AL.nil (AW.ret ?_)
  repeat with_reducible first | refine thenA_ret ?_ | refine inBlockA_ret ?_
  with_reducible first | refine retO_ret ?_ | refine retO_normal ?_
  refine reso1R rfl (ResV.tmp rfl) (resO_bx (by decide) rfl) ?_; exact ⟨rfl, rfl⟩
def flagB (x : Bool) : List UInt8 := [if x then 1 else 0]
end Go.Proofs.Ytlapcfnmmpbeeaa
