/- The law PoolPuts, walked over abstract states. No conditions. -/
import Derived.Test.YtfjnkhanndkpfaaPlQ
import Derived.Test.YtfjnkhanndkpfaaPlN
import Derived.Test.YtfjnkhanndkpfaaPlO
namespace Go.Proofs.Ytfjnkhanndkpfaa
set_option linter.unusedSimpArgs false
set_option linter.unusedVariables false
set_option maxRecDepth 100000
set_option maxRecDepth 100000
open Go.RowKit

theorem pfind_c (p : PoolD) (hok : OkP p) (g g1 g2 g3 g4 g5 g6 : Nat) (t : TagD) : ACo Try.prog 37 [.bx 0 g 0, .ag [AI t.rep, AI t.n]] (poolT g g1 g2 g3 g4 g5 g6 p) (fun y os' => (∃ x : OpD, x = (findP p t).1 ∧ y = .tu [.ag [AI x.id.rep, AI x.id.n, AI x.schema.rep, AI x.schema.n, AI x.time, AS x.cart, AI x.kind, AS x.item, AI x.at_.scope, AS x.at_.group, AS x.at_.name, AI x.delta, AB x.has, AS x.text, .sl (x.drops.map TagD.cs)], AI (findP p t).2]) ∧ os' = poolT g g1 g2 g3 g4 g5 g6 p) := by
  have key : ACo Try.prog 37 [.bx 0 g 0, t.av] (poolT g g1 g2 g3 g4 g5 g6 p) (fun y os' => y = .tu [(findP p t).1.av, AI (findP p t).2] ∧ os' = poolT g g1 g2 g3 g4 g5 g6 p) := by
    cases h : tagB t with
    | false => exact pfind_f p g g1 g2 g3 g4 g5 g6 t h
    | true =>
      obtain ⟨i, n⟩ := t
      have := (tagB_rep h).1
      simp only at this
      rcases this with rfl | rfl | rfl | rfl | rfl | rfl
      · exact pfind_1 p g g1 g2 g3 g4 g5 g6 hok n
      · exact pfind_2 p g g1 g2 g3 g4 g5 g6 hok n
      · exact pfind_3 p g g1 g2 g3 g4 g5 g6 hok n
      · exact pfind_4 p g g1 g2 g3 g4 g5 g6 hok n
      · exact pfind_5 p g g1 g2 g3 g4 g5 g6 hok n
      · exact pfind_6 p g g1 g2 g3 g4 g5 g6 hok n
  exact key.mono fun y os' h => ⟨⟨_, rfl, h.1⟩, h.2⟩
theorem sameops_t {l m : List OpD} (h : l = m) : AC Try.prog 31 [.sl (l.map OpD.cs), .sl (m.map OpD.cs)] (fun x => x = .s (AB true)) := by
  have := rsameops_c l m
  rwa [decide_eq_true h] at this
theorem find_6 {m : List OpD} {p : PoolD} (h : Rel m p) {t : TagD} (ha : atL m t < 0) : findP p t = (zeroO, 6) := by
  have := (h.find t).1
  unfold findP
  rw [if_neg (fun q => by have := this.1 q; omega)]
theorem find_0 {m : List OpD} {p : PoolD} (h : Rel m p) {t : TagD} (ha : 0 ≤ atL m t) : (findP p t).2 = 0 := (find_has t).2 ((h.find t).1.2 ha)
set_option maxHeartbeats 4000000 in
theorem pputs_c (l : List OpD) (t : TagD) (v : VecD) (most : Int) : AC Try.prog 8 [.sl (l.map OpD.cs), t.av, vecA v, AI most] (fun x => x = .s (AB true)) := by
  change AC _ _ [.sl (l.map OpD.cs), .ag [AI t.rep, AI t.n], vecA v, AI most] _
  refine AC.of' 108 17 Try.func8 rfl ?_
  change AW _ _ _ _ [TK.mk 0 .off, TK.mk 0 .off, TK.mk 0 .off, TK.mk 0 .off, TK.mk 0 .off, TK.mk 0 .off, TK.mk 0 .off, TK.mk 0 .off, TK.mk 0 .off, TK.mk 0 .off, TK.mk 0 .off, TK.mk 0 .off, TK.mk 0 .off, TK.mk 0 .off, TK.mk 0 .off, TK.mk 0 .off, TK.mk 0 .off]
  refine AW.seq ?_
  refine AW.region ?_
  refine AL.op rfl (AOpB.op (op_box 14 rfl rfl rfl rfl rfl ?_))
  refine AL.no ?_
  refine AL.op rfl (AOpB.op (op_box 15 rfl rfl rfl rfl rfl ?_))
  refine AL.no ?_
  refine AL.ra ?_
  refine AL.nil ?_
  change AW _ _ _ _ _
  refine AW.seq ?_
  refine AW.seq ?_
  refine AW.region ?_
  refine AL.op rfl (AOpB.op (op_call (awake26) rfl (by kernel_rfl) rfl (none) ?_))
  rintro r rfl
  refine AL.no ?_
  refine AL.r (rd_un rfl rfl (fun _ => rfl)) ?_
  refine AL.nil ?_
  change AW _ _ _ _ _
  refine AW.cond_f rfl ?_
  refine AW.skip ?_
  change AW _ _ _ _ _
  refine AW.seq ?_
  refine AW.seq ?_
  refine AW.region ?_
  refine AL.rm ?_
  refine AL.op rfl (AOpB.op (op_call (rheavyos_c l 60) rfl (by kernel_rfl) rfl (none) ?_))
  rintro r rfl
  refine AL.no ?_
  refine AL.nil ?_
  change AW _ _ _ _ _
  refine AW.cd rfl (fun h19 => ?_) (fun h19 => ?_)
  ·skip
   refine AW.seq ?_
   refine AW.region ?_
   refine AL.ra ?_
   refine AL.nil ?_
   change AW _ _ _ _ _
   refine AW.ret ?_
   change ResA _ _ _ _ _
   refine res1 rfl (ResV.tmp rfl) rfl ?_
   rfl
  ·skip
   refine AW.skip ?_
   change AW _ _ _ _ _
   refine AW.seq ?_
   refine AW.region ?_
   have hl := (heavyOs_f (l := l) (most := 60) (by assumption)).1
   refine AL.rm ?_
   refine AL.op rfl (calloQ (filled_c l (by omega) 0 0 0 0 0 0 0) [0, 1, 2, 3, 4, 5, 6] ?_)
   rintro y os' ⟨m, p, hR, hml, rfl, a1, a2, a3, a4, a5, a6, rfl⟩
   refine AL.noQ ?_
   refine AL.rm ?_
   refine AL.r (rd_extract rfl rfl rfl) ?_
   refine AL.r (rd_extract rfl rfl rfl) ?_
   refine AL.r (rd_extract rfl rfl rfl) ?_
   refine AL.ra ?_
   refine AL.ra ?_
   refine AL.ra ?_
   refine AL.nil ?_
   change AW _ _ _ _ _
   refine AW.seq ?_
   refine AW.seq ?_
   refine AW.region ?_
   refine AL.rm ?_
   refine AL.r (rd_un rfl rfl (fun _ => rfl)) ?_
   refine AL.nil ?_
   change AW _ _ _ _ _
   refine AW.cond_f rfl ?_
   refine AW.skip ?_
   change AW _ _ _ _ _
   refine AW.seq ?_
   refine AW.region ?_
   refine AL.rm ?_
   refine AL.r (rd_loadN_bx rfl ag_44 rfl rfl (Nat.le_of_ble_eq_true rfl) rfl) ?_
   refine AL.op rfl (calloQ (pfind_c p hR.ok 1 a1 a2 a3 a4 a5 a6 t) [0, 1, 2, 3, 4, 5, 6] ?_)
   rintro y os' ⟨⟨x, hx, rfl⟩, rfl⟩
   refine AL.noQ ?_
   refine AL.rm ?_
   refine AL.r (rd_extract rfl rfl rfl) ?_
   refine AL.r (rd_extract rfl rfl rfl) ?_
   refine AL.op rfl (AOpB.op (op_alloc 16 rfl ze_47 rfl ?_))
   refine AL.no ?_
   refine AL.op rfl (op_store_ rfl rfl rfl rfl rfl sz_47 ?_)
   refine AL.no ?_
   refine AL.ra ?_
   refine AL.nil ?_
   change AW _ _ _ _ _
   refine AW.seq ?_
   refine AW.region ?_
   refine AL.rm ?_
   refine AL.r (rd_loadN_bx rfl ag_44 rfl rfl (Nat.le_of_ble_eq_true rfl) rfl) ?_
   refine AL.op rfl (AOpB.op (op_call (rat26_c m t) rfl (by kernel_rfl) rfl (none) ?_))
   rintro r rfl
   refine AL.no ?_
   refine AL.ra ?_
   refine AL.nil ?_
   change AW _ _ _ _ _
   refine AW.seq ?_
   refine AW.seq ?_
   have hn6 := @find_6 m p hR t; have hn0 := @find_0 m p hR t; have hfx := (hR.find t).2
   refine AW.draw (by kernel_rfl) ?_
   refine AD.r 0 rfl (rd_move rfl rfl) rfl ?_
   refine AD.r 1 rfl (rd_bin rfl rfl rfl (fun _ => rfl)) rfl ?_
   refine AD.r 2 rfl (rd_move rfl rfl) rfl ?_
   refine AD.fk (d := 39) rfl (fun h39 => ?_) (fun h39 => ?_)
   ·skip
    refine AD.n ?_
    refine AD.r 3 rfl (rd_move rfl rfl) ⟨_, _, rfl, rfl, rfl⟩ ?_
    refine AD.r 4 rfl (rd_bin rfl rfl rfl (fun _ => rfl)) ⟨_, _, rfl, rfl, rfl⟩ ?_
    refine AD.r 5 rfl (rd_move rfl rfl) ⟨_, _, rfl, rfl, rfl⟩ ?_
    refine AD.fk (d := 42) rfl (fun h42 => ?_) (fun h42 => ?_)
    ·skip
     exact absurd (congrArg Prod.snd (hn6 h39)) h42
    ·skip
     refine AD.n ?_
     refine AD.r 6 rfl (rd_loadN_bx rfl ag_47 rfl rfl (Nat.le_of_ble_eq_true rfl) rfl) ⟨_, _, rfl, rfl, rfl⟩ ?_
     refine AD.r 7 rfl (rd_build rfl pl_47 ze_47 rfl rfl) ⟨_, _, rfl, rfl, rfl⟩ ?_
     refine AD.move 8 rfl (by kernel_rfl) ⟨_, _, rfl, rfl, rfl⟩ (op_call (rsameo_c x zeroO) rfl (by kernel_rfl) rfl (none) ?_)
     rintro r rfl
     refine AD.n ?_
     refine AD.r 9 rfl (rd_un rfl rfl (fun _ => rfl)) ⟨_, _, rfl, rfl, rfl⟩ ?_
     refine AD.r 10 rfl (rd_pick_f rfl rfl rfl) ⟨_, _, rfl, rfl, rfl⟩ ?_
     refine AD.r 11 rfl (rd_pick_t rfl rfl rfl) rfl ?_
     refine AD.r 12 rfl (rd_move rfl rfl) rfl ?_
     refine AD.fk (d := 49) rfl (fun h49 => ?_) (fun h49 => ?_)
     ·skip
      exact absurd h49 (by rw [hx, hn6 h39]; decide)
     ·skip
      refine AD.n ?_
      refine AD.r 13 rfl (rd_move rfl rfl) ⟨_, _, rfl, rfl, rfl⟩ ?_
      refine AD.r 14 rfl (rd_bin rfl rfl rfl (fun _ => rfl)) ⟨_, _, rfl, rfl, rfl⟩ ?_
      refine AD.r 15 rfl (rd_move rfl rfl) ⟨_, _, rfl, rfl, rfl⟩ ?_
      refine AD.fk (d := 52) rfl (fun h52 => ?_) (fun h52 => ?_)
      ·skip
       omega
      ·skip
       refine AD.n ?_
       refine AD.s 16 rfl ⟨_, _, rfl, rfl, rfl⟩ ?_
       refine AD.s 17 rfl ⟨_, _, rfl, rfl, rfl⟩ ?_
       refine AD.s 18 rfl ⟨_, _, rfl, rfl, rfl⟩ ?_
       refine AD.s 19 rfl ⟨_, _, rfl, rfl, rfl⟩ ?_
       refine AD.s 20 rfl ⟨_, _, rfl, rfl, rfl⟩ ?_
       refine AD.s 21 rfl ⟨_, _, rfl, rfl, rfl⟩ ?_
       refine AD.s 22 rfl ⟨_, _, rfl, rfl, rfl⟩ ?_
       refine AD.s 23 rfl ⟨_, _, rfl, rfl, rfl⟩ ?_
       refine AD.s 24 rfl ⟨_, _, rfl, rfl, rfl⟩ ?_
       refine AD.s 25 rfl ⟨_, _, rfl, rfl, rfl⟩ ?_
       refine AD.s 26 rfl ⟨_, _, rfl, rfl, rfl⟩ ?_
       refine AD.r 27 rfl (rd_pick_f rfl rfl rfl) ⟨_, _, rfl, rfl, rfl⟩ ?_
       refine AD.r 28 rfl (rd_pick_f rfl rfl rfl) rfl ?_
       refine AD.done (by kernel_rfl) ?_
       change AW _ _ _ _ _
       refine AW.cond_f rfl ?_
       refine AW.skip ?_
       change AW _ _ _ _ _
       refine AW.seq ?_
       refine AW.region ?_
       refine AL.rm ?_
       refine AL.op rfl (calloQ (pcopy_c p hR.ok 1 a1 a2 a3 a4 a5 a6 0 0 0 0 0 0 0) [0, 1, 2, 3, 4, 5, 6, 7, 8, 9, 10, 11, 12, 13] ?_)
       rintro y os' ⟨rfl, ts, ⟨b1, b2, b3, b4, b5, b6, rfl⟩, rfl⟩
       refine AL.noQ ?_
       refine AL.ra ?_
       refine AL.nil ?_
       change AW _ _ _ _ _
       refine AW.seq ?_
       refine AW.freebox 6 rfl rfl (Nat.zero_lt_succ _) rfl ?_
       refine AW.norm (by simp only [anys, upds, offs, List.set_cons_zero, List.set_cons_succ]; rfl) (by (try simp only [anys, upds, offs, List.set_cons_zero, List.set_cons_succ]); (try rfl)) ?_
       refine AW.drawA (by kernel_rfl) ?_
       refine ADA.r 0 rfl (ARdP.a (rdP_move rfl rfl)) rfl ?_
       refine ADA.r 2 rfl (ARdP.a (rdP_move rfl rfl)) rfl ?_
       refine ADA.b ?_
       refine ADB.mv 1 rfl (calloQ (pops_c p hR.ok 1 a1 a2 a3 a4 a5 a6) [0, 1, 2, 3, 4, 5, 6] ?_)
       rintro y os' ⟨rfl, rfl⟩
       refine ADB.noQ ?_
       refine ADB.mv 3 rfl (AOpB.op (op_call (rsorted_c m (by omega)) rfl (by kernel_rfl) rfl (none) ?_))
       rintro r rfl
       refine ADB.n ?_
       refine ADB.mv 4 rfl (AOpB.op (op_call (sameops_t ((ops_cat hR.ok).trans hR.sort.symm)) rfl (by kernel_rfl) rfl (none) ?_))
       rintro r rfl
       refine ADB.n ?_
       refine ADB.r 5 rfl (rdP_move rfl rfl) rfl ?_
       refine ADB.r 6 rfl (rdP_move rfl rfl) ⟨_, _, rfl, rfl, rfl⟩ ?_
       refine ADB.r 8 rfl (rdP_move rfl rfl) ⟨_, _, rfl, rfl, rfl⟩ ?_
       refine ADB.mv 7 rfl (calloQ (pops_c p hR.ok 1 b1 b2 b3 b4 b5 b6) [7, 8, 9, 10, 11, 12, 13] ?_)
       rintro y os' ⟨rfl, rfl⟩
       refine ADB.noQ ?_
       refine ADB.mv 9 rfl (calloQ (pops_c p hR.ok 1 a1 a2 a3 a4 a5 a6) [0, 1, 2, 3, 4, 5, 6] ?_)
       rintro y os' ⟨rfl, rfl⟩
       refine ADB.noQ ?_
       refine ADB.mv 10 rfl (AOpB.op (op_call (sameops_t rfl) rfl (by kernel_rfl) rfl (none) ?_))
       rintro r rfl
       refine ADB.n ?_
       refine ADB.r 11 rfl (rdP_pick_t rfl rfl rfl) rfl ?_
       refine ADB.r 12 rfl (rdP_move rfl rfl) rfl ?_
       refine ADB.r 13 rfl (rdP_move rfl rfl) ⟨_, _, rfl, rfl, rfl⟩ ?_
       refine ADB.ra 14 rfl (rdA_loadN_ep rfl ag_58 rfl (Nat.le_of_ble_eq_true rfl) rfl) ⟨_, _, rfl, rfl, rfl⟩ ?_
       refine ADB.r 15 rfl (rdP_move rfl rfl) ⟨_, _, rfl, rfl, rfl⟩ ?_
       refine ADB.r 17 rfl (rdP_move rfl rfl) ⟨_, _, rfl, rfl, rfl⟩ ?_
       refine ADB.ra 18 rfl (rdA_loadN_ep rfl ag_58 rfl (Nat.le_of_ble_eq_true rfl) rfl) ⟨_, _, rfl, rfl, rfl⟩ ?_
       refine ADB.r 19 rfl (rdP_move rfl rfl) ⟨_, _, rfl, rfl, rfl⟩ ?_
       refine ADB.mv 16 rfl (calloQ (psince_c p hR.ok 1 a1 a2 a3 a4 a5 a6 v most) [0, 1, 2, 3, 4, 5, 6] ?_)
       rintro y os' ⟨rfl, rfl⟩
       refine ADB.noQ ?_
       refine ADB.mv 20 rfl (AOpB.op (op_call (rsince26_c m v most (by omega)) rfl (by kernel_rfl) rfl (none) ?_))
       rintro r rfl
       refine ADB.n ?_
       refine ADB.mv 21 rfl (AOpB.op (op_call (sameops_t (hR.since v most)) rfl (by kernel_rfl) rfl (none) ?_))
       rintro r rfl
       refine ADB.n ?_
       refine ADB.r 22 rfl (rdP_pick_t rfl rfl rfl) rfl ?_
       refine ADB.r 23 rfl (rdP_move rfl rfl) rfl ?_
       refine ADB.r 24 rfl (rdP_move rfl rfl) ⟨_, _, rfl, rfl, rfl⟩ ?_
       refine ADB.r 26 rfl (rdP_move rfl rfl) ⟨_, _, rfl, rfl, rfl⟩ ?_
       refine ADB.mv 25 rfl (calloQ (phave_c p 1 a1 a2 a3 a4 a5 a6) [0, 1, 2, 3, 4, 5, 6] ?_)
       rintro y os' ⟨rfl, rfl⟩
       refine ADB.noQ ?_
       refine ADB.mv 27 rfl (AOpB.op (op_call (rhave_c m (by omega) hR.right) rfl (by kernel_rfl) rfl (none) ?_))
       rintro r rfl
       refine ADB.n ?_
       refine ADB.mv 28 rfl (AOpB.op (ARd.opB (rd_eq_Vector rfl rfl rfl) ?_))
       refine ADB.n ?_
       refine ADB.r 29 rfl (rdP_pick_t rfl rfl rfl) rfl ?_
       refine ADB.r 30 rfl (rdP_move rfl rfl) rfl ?_
       refine ADB.fk (d := 98) rfl (fun h98 => ?_) (fun h98 => ?_)
       ·skip
        refine ADB.n ?_
        refine ADB.r 31 rfl (rdP_move rfl rfl) ⟨_, _, rfl, rfl, rfl⟩ ?_
        refine ADB.r 33 rfl (rdP_move rfl rfl) ⟨_, _, rfl, rfl, rfl⟩ ?_
        refine ADB.r 34 rfl (rdP_len_sl rfl el_50 rfl) ⟨_, _, rfl, rfl, rfl⟩ ?_
        refine ADB.mv 32 rfl (calloQ (plen_c p 1 a1 a2 a3 a4 a5 a6 (by have := hR.ok.tot; unfold totP; omega)) [0, 1, 2, 3, 4, 5, 6] ?_)
        rintro y os' ⟨rfl, rfl⟩
        refine ADB.noQ ?_
        refine ADB.r 35 rfl (rdP_bin rfl rfl rfl (fun _ => rfl)) ⟨_, _, rfl, rfl, rfl⟩ ?_
        refine ADB.r 36 rfl (rdP_pick_t rfl rfl rfl) rfl ?_
        refine ADB.r 37 rfl (rdP_move rfl rfl) rfl ?_
        refine ADB.fk (d := 105) rfl (fun h105 => ?_) (fun h105 => ?_)
        ·skip
         refine ADB.n ?_
         refine ADB.r 38 rfl (rdP_move rfl rfl) ⟨_, _, rfl, rfl, rfl⟩ ?_
         refine ADB.r 40 rfl (rdP_move rfl rfl) ⟨_, _, rfl, rfl, rfl⟩ ?_
         refine ADB.mv 39 rfl (calloQ (pclock_c p hR.ok 1 a1 a2 a3 a4 a5 a6) [0, 1, 2, 3, 4, 5, 6] ?_)
         rintro y os' ⟨rfl, rfl⟩
         refine ADB.noQ ?_
         refine ADB.mv 41 rfl (AOpB.op (op_call (rclock_c m) rfl (by kernel_rfl) rfl (none) ?_))
         rintro r rfl
         refine ADB.n ?_
         refine ADB.r 42 rfl (rdP_bin rfl rfl rfl (fun _ => rfl)) ⟨_, _, rfl, rfl, rfl⟩ ?_
         refine ADB.r 43 rfl (rdP_pick_t rfl rfl rfl) rfl ?_
         refine ADB.r 44 rfl (rdP_assign rfl rfl) rfl ?_
         refine ADB.done (by kernel_rfl) ?_
         change AW _ _ _ _ _
         refine AW.ret ?_
         change ResA _ _ _ _ _
         refine res1 rfl (ResV.tmp rfl) rfl ?_
         rw [hR.clock, beq_self_eq_true]
        ·skip
         exact absurd hR.len (by omega)
       ·skip
        exact absurd h98 (by simp only [hR.have_]; decide)
   ·skip
    refine AD.n ?_
    refine AD.s 3 rfl ⟨_, _, rfl, rfl, rfl⟩ ?_
    refine AD.s 4 rfl ⟨_, _, rfl, rfl, rfl⟩ ?_
    refine AD.s 5 rfl ⟨_, _, rfl, rfl, rfl⟩ ?_
    refine AD.s 6 rfl ⟨_, _, rfl, rfl, rfl⟩ ?_
    refine AD.s 7 rfl ⟨_, _, rfl, rfl, rfl⟩ ?_
    refine AD.s 8 rfl ⟨_, _, rfl, rfl, rfl⟩ ?_
    refine AD.s 9 rfl ⟨_, _, rfl, rfl, rfl⟩ ?_
    refine AD.s 10 rfl ⟨_, _, rfl, rfl, rfl⟩ ?_
    refine AD.r 11 rfl (rd_pick_f rfl rfl rfl) rfl ?_
    refine AD.r 12 rfl (rd_move rfl rfl) rfl ?_
    refine AD.r 13 rfl (rd_move rfl rfl) ⟨_, _, rfl, rfl, rfl⟩ ?_
    refine AD.r 14 rfl (rd_bin rfl rfl rfl (fun _ => rfl)) ⟨_, _, rfl, rfl, rfl⟩ ?_
    refine AD.r 15 rfl (rd_move rfl rfl) ⟨_, _, rfl, rfl, rfl⟩ ?_
    refine AD.fk (d := 52) rfl (fun h52 => ?_) (fun h52 => ?_)
    ·skip
     refine AD.n ?_
     refine AD.r 16 rfl (rd_move rfl rfl) ⟨_, _, rfl, rfl, rfl⟩ ?_
     refine AD.r 17 rfl (rd_bin rfl rfl rfl (fun _ => rfl)) ⟨_, _, rfl, rfl, rfl⟩ ?_
     refine AD.r 18 rfl (rd_move rfl rfl) ⟨_, _, rfl, rfl, rfl⟩ ?_
     refine AD.fk (d := 55) rfl (fun h55 => ?_) (fun h55 => ?_)
     ·skip
      exact absurd (hn0 (by omega)) h55
     ·skip
      refine AD.n ?_
      refine AD.r 19 rfl (rd_loadN_bx rfl ag_47 rfl rfl (Nat.le_of_ble_eq_true rfl) rfl) ⟨_, _, rfl, rfl, rfl⟩ ?_
      refine AD.r 20 rfl (rd_move rfl rfl) ⟨_, _, rfl, rfl, rfl⟩ ?_
      refine AD.r 21 rfl (rd_move rfl rfl) ⟨_, _, rfl, rfl, rfl⟩ ?_
      refine AD.r 22 rfl (rd_iaddr_sl rfl el_50 rfl rfl (n := (atL m t).toNat) (by omega) (getA_map (by obtain ⟨i, e1, e2⟩ := atL_lt (l := m) (t := t) (by omega); omega)) rfl) ⟨_, _, rfl, rfl, rfl⟩ ?_
      refine AD.r 23 rfl (rd_loadN_ep rfl ag_47 rfl (Nat.le_of_ble_eq_true rfl) rfl) ⟨_, _, rfl, rfl, rfl⟩ ?_
      refine AD.move 24 rfl (by kernel_rfl) ⟨_, _, rfl, rfl, rfl⟩ (op_call (rsameo_c x (m[(atL m t).toNat]?.getD zeroO)) rfl (by kernel_rfl) rfl (none) ?_)
      rintro r rfl
      refine AD.n ?_
      refine AD.r 25 rfl (rd_un rfl rfl (fun _ => rfl)) ⟨_, _, rfl, rfl, rfl⟩ ?_
      refine AD.r 26 rfl (rd_pick_f rfl rfl rfl) ⟨_, _, rfl, rfl, rfl⟩ ?_
      refine AD.r 27 rfl (rd_pick_t rfl rfl rfl) ⟨_, _, rfl, rfl, rfl⟩ ?_
      refine AD.r 28 rfl (rd_pick_f rfl rfl rfl) rfl ?_
      refine AD.done (by kernel_rfl) ?_
      change AW _ _ _ _ _
      refine AW.cd rfl (fun h65 => ?_) (fun h65 => ?_)
      ·skip
       exact absurd h65 (by rw [hx, hfx (by omega)]; simp)
      ·skip
       refine AW.skip ?_
       change AW _ _ _ _ _
       refine AW.seq ?_
       refine AW.region ?_
       refine AL.rm ?_
       refine AL.op rfl (calloQ (pcopy_c p hR.ok 1 a1 a2 a3 a4 a5 a6 0 0 0 0 0 0 0) [0, 1, 2, 3, 4, 5, 6, 7, 8, 9, 10, 11, 12, 13] ?_)
       rintro y os' ⟨rfl, ts, ⟨b1, b2, b3, b4, b5, b6, rfl⟩, rfl⟩
       refine AL.noQ ?_
       refine AL.ra ?_
       refine AL.nil ?_
       change AW _ _ _ _ _
       refine AW.seq ?_
       refine AW.freebox 6 rfl rfl (Nat.zero_lt_succ _) rfl ?_
       refine AW.norm (by simp only [anys, upds, offs, List.set_cons_zero, List.set_cons_succ]; rfl) (by (try simp only [anys, upds, offs, List.set_cons_zero, List.set_cons_succ]); (try rfl)) ?_
       refine AW.drawA (by kernel_rfl) ?_
       refine ADA.r 0 rfl (ARdP.a (rdP_move rfl rfl)) rfl ?_
       refine ADA.r 2 rfl (ARdP.a (rdP_move rfl rfl)) rfl ?_
       refine ADA.b ?_
       refine ADB.mv 1 rfl (calloQ (pops_c p hR.ok 1 a1 a2 a3 a4 a5 a6) [0, 1, 2, 3, 4, 5, 6] ?_)
       rintro y os' ⟨rfl, rfl⟩
       refine ADB.noQ ?_
       refine ADB.mv 3 rfl (AOpB.op (op_call (rsorted_c m (by omega)) rfl (by kernel_rfl) rfl (none) ?_))
       rintro r rfl
       refine ADB.n ?_
       refine ADB.mv 4 rfl (AOpB.op (op_call (sameops_t ((ops_cat hR.ok).trans hR.sort.symm)) rfl (by kernel_rfl) rfl (none) ?_))
       rintro r rfl
       refine ADB.n ?_
       refine ADB.r 5 rfl (rdP_move rfl rfl) rfl ?_
       refine ADB.r 6 rfl (rdP_move rfl rfl) ⟨_, _, rfl, rfl, rfl⟩ ?_
       refine ADB.r 8 rfl (rdP_move rfl rfl) ⟨_, _, rfl, rfl, rfl⟩ ?_
       refine ADB.mv 7 rfl (calloQ (pops_c p hR.ok 1 b1 b2 b3 b4 b5 b6) [7, 8, 9, 10, 11, 12, 13] ?_)
       rintro y os' ⟨rfl, rfl⟩
       refine ADB.noQ ?_
       refine ADB.mv 9 rfl (calloQ (pops_c p hR.ok 1 a1 a2 a3 a4 a5 a6) [0, 1, 2, 3, 4, 5, 6] ?_)
       rintro y os' ⟨rfl, rfl⟩
       refine ADB.noQ ?_
       refine ADB.mv 10 rfl (AOpB.op (op_call (sameops_t rfl) rfl (by kernel_rfl) rfl (none) ?_))
       rintro r rfl
       refine ADB.n ?_
       refine ADB.r 11 rfl (rdP_pick_t rfl rfl rfl) rfl ?_
       refine ADB.r 12 rfl (rdP_move rfl rfl) rfl ?_
       refine ADB.r 13 rfl (rdP_move rfl rfl) ⟨_, _, rfl, rfl, rfl⟩ ?_
       refine ADB.ra 14 rfl (rdA_loadN_ep rfl ag_58 rfl (Nat.le_of_ble_eq_true rfl) rfl) ⟨_, _, rfl, rfl, rfl⟩ ?_
       refine ADB.r 15 rfl (rdP_move rfl rfl) ⟨_, _, rfl, rfl, rfl⟩ ?_
       refine ADB.r 17 rfl (rdP_move rfl rfl) ⟨_, _, rfl, rfl, rfl⟩ ?_
       refine ADB.ra 18 rfl (rdA_loadN_ep rfl ag_58 rfl (Nat.le_of_ble_eq_true rfl) rfl) ⟨_, _, rfl, rfl, rfl⟩ ?_
       refine ADB.r 19 rfl (rdP_move rfl rfl) ⟨_, _, rfl, rfl, rfl⟩ ?_
       refine ADB.mv 16 rfl (calloQ (psince_c p hR.ok 1 a1 a2 a3 a4 a5 a6 v most) [0, 1, 2, 3, 4, 5, 6] ?_)
       rintro y os' ⟨rfl, rfl⟩
       refine ADB.noQ ?_
       refine ADB.mv 20 rfl (AOpB.op (op_call (rsince26_c m v most (by omega)) rfl (by kernel_rfl) rfl (none) ?_))
       rintro r rfl
       refine ADB.n ?_
       refine ADB.mv 21 rfl (AOpB.op (op_call (sameops_t (hR.since v most)) rfl (by kernel_rfl) rfl (none) ?_))
       rintro r rfl
       refine ADB.n ?_
       refine ADB.r 22 rfl (rdP_pick_t rfl rfl rfl) rfl ?_
       refine ADB.r 23 rfl (rdP_move rfl rfl) rfl ?_
       refine ADB.r 24 rfl (rdP_move rfl rfl) ⟨_, _, rfl, rfl, rfl⟩ ?_
       refine ADB.r 26 rfl (rdP_move rfl rfl) ⟨_, _, rfl, rfl, rfl⟩ ?_
       refine ADB.mv 25 rfl (calloQ (phave_c p 1 a1 a2 a3 a4 a5 a6) [0, 1, 2, 3, 4, 5, 6] ?_)
       rintro y os' ⟨rfl, rfl⟩
       refine ADB.noQ ?_
       refine ADB.mv 27 rfl (AOpB.op (op_call (rhave_c m (by omega) hR.right) rfl (by kernel_rfl) rfl (none) ?_))
       rintro r rfl
       refine ADB.n ?_
       refine ADB.mv 28 rfl (AOpB.op (ARd.opB (rd_eq_Vector rfl rfl rfl) ?_))
       refine ADB.n ?_
       refine ADB.r 29 rfl (rdP_pick_t rfl rfl rfl) rfl ?_
       refine ADB.r 30 rfl (rdP_move rfl rfl) rfl ?_
       refine ADB.fk (d := 98) rfl (fun h98 => ?_) (fun h98 => ?_)
       ·skip
        refine ADB.n ?_
        refine ADB.r 31 rfl (rdP_move rfl rfl) ⟨_, _, rfl, rfl, rfl⟩ ?_
        refine ADB.r 33 rfl (rdP_move rfl rfl) ⟨_, _, rfl, rfl, rfl⟩ ?_
        refine ADB.r 34 rfl (rdP_len_sl rfl el_50 rfl) ⟨_, _, rfl, rfl, rfl⟩ ?_
        refine ADB.mv 32 rfl (calloQ (plen_c p 1 a1 a2 a3 a4 a5 a6 (by have := hR.ok.tot; unfold totP; omega)) [0, 1, 2, 3, 4, 5, 6] ?_)
        rintro y os' ⟨rfl, rfl⟩
        refine ADB.noQ ?_
        refine ADB.r 35 rfl (rdP_bin rfl rfl rfl (fun _ => rfl)) ⟨_, _, rfl, rfl, rfl⟩ ?_
        refine ADB.r 36 rfl (rdP_pick_t rfl rfl rfl) rfl ?_
        refine ADB.r 37 rfl (rdP_move rfl rfl) rfl ?_
        refine ADB.fk (d := 105) rfl (fun h105 => ?_) (fun h105 => ?_)
        ·skip
         refine ADB.n ?_
         refine ADB.r 38 rfl (rdP_move rfl rfl) ⟨_, _, rfl, rfl, rfl⟩ ?_
         refine ADB.r 40 rfl (rdP_move rfl rfl) ⟨_, _, rfl, rfl, rfl⟩ ?_
         refine ADB.mv 39 rfl (calloQ (pclock_c p hR.ok 1 a1 a2 a3 a4 a5 a6) [0, 1, 2, 3, 4, 5, 6] ?_)
         rintro y os' ⟨rfl, rfl⟩
         refine ADB.noQ ?_
         refine ADB.mv 41 rfl (AOpB.op (op_call (rclock_c m) rfl (by kernel_rfl) rfl (none) ?_))
         rintro r rfl
         refine ADB.n ?_
         refine ADB.r 42 rfl (rdP_bin rfl rfl rfl (fun _ => rfl)) ⟨_, _, rfl, rfl, rfl⟩ ?_
         refine ADB.r 43 rfl (rdP_pick_t rfl rfl rfl) rfl ?_
         refine ADB.r 44 rfl (rdP_assign rfl rfl) rfl ?_
         refine ADB.done (by kernel_rfl) ?_
         change AW _ _ _ _ _
         refine AW.ret ?_
         change ResA _ _ _ _ _
         refine res1 rfl (ResV.tmp rfl) rfl ?_
         rw [hR.clock, beq_self_eq_true]
        ·skip
         exact absurd hR.len (by omega)
       ·skip
        exact absurd h98 (by simp only [hR.have_]; decide)
    ·skip
     omega
theorem walk_PoolPuts (w : World) (v0 : Value) (l0 : List OpD) (rp0 : RepS AnyB w v0 (.sl (l0.map OpD.cs))) (v1 : Value) (t1 : TagD) (rp1 : RepS AnyB w v1 t1.av) (v2 : Value) (x2 : VecD) (rp2 : RepS AnyB w v2 (vecA x2)) (a3 : Int) (w3 : (Lit.int .i64 a3).wf = true) :
    Calls Try.prog 8 #[v0, v1, v2, .int .i64 a3] w fun e w' => e = .returned (.bool true) ∧ Below w.heap.size w w' :=
  (pputs_c l0 t1 x2 a3).law (vs := [v0, v1, v2, .int .i64 a3]) rfl (rep_cons rp0 (rep_cons rp1 (rep_cons rp2 (rep_cons (.sc _) rep_nil))))
end Go.Proofs.Ytfjnkhanndkpfaa
