/- A part of a proof. -/
import Derived.Test.YtlapcfnmmpbeeaaPT45
set_option linter.unusedSimpArgs false
set_option linter.unusedVariables false
namespace Go.Proofs.Ytlapcfnmmpbeeaa
set_option maxRecDepth 100000
set_option maxRecDepth 100000
open Go.RowKit
theorem lst_row {α : Type} {get : RdrD → α × RdrD} {f : α → List AV} {g T n : Nat} {r : RdrD} {j : Nat} : TK.mk g (owM true T n ((lstR get r j).1.map f ++ [f (get (lstR get r j).2).1])) = TK.mk g (owM true T n ((lstR get r (j + 1)).1.map f)) := by
  rw [lstR, List.map_append]; rfl
theorem oget_y (g : Nat) (r : RdrD) (h : r.Ok) : ACo Try.prog 32 [.bx 0 g 0] (RdrT g r) (fun y os' => y = .ag [AI ((getO r).1).id.rep, AI ((getO r).1).id.n, AI ((getO r).1).schema.rep, AI ((getO r).1).schema.n, AI ((getO r).1).time, AS ((getO r).1).cart, AI ((getO r).1).kind, AS ((getO r).1).item, AI ((getO r).1).at_.scope, AS ((getO r).1).at_.group, AS ((getO r).1).at_.name, AI ((getO r).1).delta, AB ((getO r).1).has, AS ((getO r).1).text, .sl (((getO r).1).drops.map TagD.cs)] ∧ os' = RdrT g (getO r).2) := oget_c g r h
set_option maxHeartbeats 4000000 in
theorem taket_c (g : Nat) (r : RdrD) (h : r.Ok) : ACo Try.prog 27 [.bx 0 g 0, .sc (.int .i64 40), .sc (.func (.func 28) #[] #[])] (RdrT g r) (fun y os' => ∃ l r', y = .sl (l.map TagD.cs) ∧ os' = RdrT g r' ∧ r'.Ok ∧ badP r' = badP (takeP rtagP r 40).2 ∧ (badP r' = false → l = (takeP rtagP r 40).1 ∧ r' = (takeP rtagP r 40).2)) := by
  obtain ⟨hc1, hc2⟩ := count_bd r (most := 40) (by omega)
  have hqn : ((takeN r 40 : Nat) : Int) = (countP r 40).1 := Int.toNat_of_nonneg hc1
  refine ACo.of' (st0 := [⟨g, .box 101 [.sl (byA r.b), .sc (.int .i64 r.f), .sc (.int .i64 r.at_), .sc (.bool r.bad)]⟩, TK.mk 0 .off, TK.mk 0 .off, TK.mk 0 .off, TK.mk 0 .off]) 22 4 Try.func27 rfl 1 ?_; refine AW.g (AL.ra ?_); refine AL.nil (AW.g (AL.ra ?_)); refine AL.nil (AW.seq (AW.g (AL.nil_own 7 4 51 2 rfl rfl ?_))); refine AL.n ?_; (iterate 2 refine AL.rm ?_); refine AL.oq (calloR (rcount_c g r h 40) [0] ?_); rintro y os' ⟨rfl, rfl⟩; refine AL.noR ?_; refine AL.rm ?_; refine AL.nil (AW.block (AW.loopM (ι := Nat × Nat) [6, 8, 13, 14, 15, 16, 17, 18, 19, 20, 21, 22, 23] (fun ⟨j, gL⟩ => [(12, AI (j : Int)), (7, .ow 4 gL)]) [1, 2, 3] (fun ⟨j, gL⟩ => [(4, ⟨gL, owM true 51 2 ((lstR rtagP (countP r 40).2 j).1.map TagD.cs)⟩), (0, ⟨g, .box 101 [.sl (byA (lstR rtagP (countP r 40).2 j).2.b), .sc (.int .i64 (lstR rtagP (countP r 40).2 j).2.f), .sc (.int .i64 (lstR rtagP (countP r 40).2 j).2.at_), .sc (.bool (lstR rtagP (countP r 40).2 j).2.bad)]⟩)]) (fun ⟨j, gL⟩ => j ≤ takeN r 40) (fun ⟨j, gL⟩ => takeN r 40 - j) ⟨0, 1⟩ (Nat.zero_le _) wk (by simp only [anys, upds, offs, List.set_cons_zero, List.set_cons_succ]; repeat (first | exact Sk.nil _ | refine Sk.same _ ?_ | refine Sk.scr _ (by decide) ?_ | refine Sk.eq _ (by rfl) ?_)) ?_))
  rintro ⟨j, gL⟩ gs hJ; refine AW.nm ?_
  have hto := lstR_ok tag_okx (h.count 40).ok j
  have hln := lstR_len (get := rtagP) (countP r 40).2 j
  refine AW.g (AL.r qb ?_); refine AL.nil (AW.seq (AW.cd rfl (fun h13 => ?_) (fun h13 => ?_)))
  ·refine AW.skip (AW.seq (AW.block (AW.g ?_))); (iterate 2 refine AL.rm ?_); refine AL.oq (centrR (rdtag_x g (lstR rtagP (countP r 40).2 j).2 hto.ok) (ent_fv rfl rfl (by kernel_rfl)) [0] ?_); rintro y os' ⟨rfl, rfl⟩; refine AL.noR ?_; refine AL.oq (AOpB.op (oA 1 ze_51 ?_)); refine AL.no ?_; refine AL.oq (oS sz_51 ?_); refine AL.no ?_; refine AL.nil (AW.seq (AW.g (AL.rm ?_))); refine AL.oq (calloR (rbad_c g (lstR rtagP (countP r 40).2 (j + 1)).2) [0] ?_); rintro y os' ⟨rfl, rfl⟩; refine AL.noR ?_; refine AL.nil (AW.cd rfl (fun h18 => ?_) (fun h18 => ?_))
   ·refine AW.g (AL.ra ?_); refine AL.nil (AW.ret ?_)
    repeat with_reducible first | refine thenA_ret ?_ | refine inBlockA_ret ?_
    with_reducible first | refine retO_ret ?_ | refine retO_normal ?_
    refine reso1R rfl (ResV.tmp rfl) rfl ?_
    have hb9 : badP (takeP rtagP r 40).2 = true := (by have := bad_lstR (get := rtagP) (fun r => bad_tag) (r := (countP r 40).2) (k := j + 1) (by assumption) (takeN r 40 - (j + 1)); rwa [show j + 1 + (takeN r 40 - (j + 1)) = takeN r 40 by omega] at this)
    exact ⟨[], _, rfl, rfl, (lstR_ok tag_okx (h.count 40).ok (j + 1)).ok, (by rw [hb9]; assumption), fun hh => by simp_all⟩
   refine AW.skip ?_; change AW _ _ _ _ _; refine AW.region ?_; refine AL.rm ?_; refine AL.r (qN ag_51) ?_; refine AL.oq (AOpB.op (bs_set rfl ap_24 ze_51 rfl rfl ?_)); refine AL.no ?_; refine AL.oq (op_appendM rfl ap_24 rfl rfl (src_s rfl) (by simp only [List.length_map, List.length_cons, List.length_nil]; omega) (by simp only [List.length_map, List.length_cons, List.length_nil]; omega) ?_); refine AL.no ?_; refine AL.ra ?_; refine AL.nil ?_; change AW _ _ _ _ _; refine AW.region ?_; refine AL.r qA ?_; refine AL.rm ?_; refine AL.nil ?_; refine ⟨⟨j + 1, gL + 1⟩, ?_, by first | omega | (simp only []; omega), ?_, ?_⟩
   ·show j + 1 ≤ takeN r 40; omega
   ·exact wk
   simp only [anys, upds, offs, List.set_cons_zero, List.set_cons_succ]; repeat (first | exact Sk.nil _ | refine Sk.same _ ?_ | refine Sk.scr _ (by decide) ?_ | refine Sk.eq _ (by first | rfl | exact lst_row (f := TagD.cs)) ?_)
  refine AW.exit ?_; change AW _ _ _ _ _; refine AW.g (AL.rm ?_); refine AL.ra ?_; refine AL.nil (AW.ret ?_)
  repeat with_reducible first | refine thenA_ret ?_ | refine inBlockA_ret ?_
  with_reducible first | refine retO_ret ?_ | refine retO_normal ?_
  refine reso1R rfl (ResV.tmp rfl) (by first | exact resO_owM (by decide) rfl | exact resO_own (by decide) rfl | exact resO_set (by decide) rfl | exact resO_setM (by decide) rfl | exact resO_setN (by decide) rfl) ?_; obtain rfl : j = takeN r 40 := (by omega); exact ⟨_, _, rfl, rfl, hto.ok, rfl, fun _ => ⟨rfl, rfl⟩⟩
set_option maxHeartbeats 4000000 in
theorem takee_c (g : Nat) (r : RdrD) (h : r.Ok) : ACo Try.prog 29 [.bx 0 g 0, .sc (.int .i64 6), .sc (.func (.func 30) #[] #[])] (RdrT g r) (fun y os' => ∃ l r', y = .sl (l.map EdgeD.cs) ∧ os' = RdrT g r' ∧ r'.Ok ∧ badP r' = badP (takeP getE r 6).2 ∧ (badP r' = false → l = (takeP getE r 6).1 ∧ r' = (takeP getE r 6).2)) := by
  obtain ⟨hc1, hc2⟩ := count_bd r (most := 6) (by omega)
  have hqn : ((takeN r 6 : Nat) : Int) = (countP r 6).1 := Int.toNat_of_nonneg hc1
  refine ACo.of' (st0 := [⟨g, .box 101 [.sl (byA r.b), .sc (.int .i64 r.f), .sc (.int .i64 r.at_), .sc (.bool r.bad)]⟩, TK.mk 0 .off, TK.mk 0 .off, TK.mk 0 .off, TK.mk 0 .off]) 22 4 Try.func29 rfl 1 ?_; refine AW.g (AL.ra ?_); refine AL.nil (AW.g (AL.ra ?_)); refine AL.nil (AW.seq (AW.g (AL.nil_own 7 4 63 20 rfl rfl ?_))); refine AL.n ?_; (iterate 2 refine AL.rm ?_); refine AL.oq (calloR (rcount_c g r h 6) [0] ?_); rintro y os' ⟨rfl, rfl⟩; refine AL.noR ?_; refine AL.rm ?_; refine AL.nil (AW.block (AW.loopM (ι := Nat × Nat) [6, 8, 13, 14, 15, 16, 17, 18, 19, 20, 21, 22, 23] (fun ⟨j, gL⟩ => [(12, AI (j : Int)), (7, .ow 4 gL)]) [1, 2, 3] (fun ⟨j, gL⟩ => [(4, ⟨gL, owM true 63 20 ((lstR getE (countP r 6).2 j).1.map EdgeD.cs)⟩), (0, ⟨g, .box 101 [.sl (byA (lstR getE (countP r 6).2 j).2.b), .sc (.int .i64 (lstR getE (countP r 6).2 j).2.f), .sc (.int .i64 (lstR getE (countP r 6).2 j).2.at_), .sc (.bool (lstR getE (countP r 6).2 j).2.bad)]⟩)]) (fun ⟨j, gL⟩ => j ≤ takeN r 6) (fun ⟨j, gL⟩ => takeN r 6 - j) ⟨0, 1⟩ (Nat.zero_le _) wk (by simp only [anys, upds, offs, List.set_cons_zero, List.set_cons_succ]; repeat (first | exact Sk.nil _ | refine Sk.same _ ?_ | refine Sk.scr _ (by decide) ?_ | refine Sk.eq _ (by rfl) ?_)) ?_))
  rintro ⟨j, gL⟩ gs hJ; refine AW.nm ?_
  have hto := lstR_ok (fun _ => getE_ok) (h.count 6).ok j
  have hln := lstR_len (get := getE) (countP r 6).2 j
  refine AW.g (AL.r qb ?_); refine AL.nil (AW.seq (AW.cd rfl (fun h13 => ?_) (fun h13 => ?_)))
  ·refine AW.skip (AW.seq (AW.block (AW.g ?_))); (iterate 2 refine AL.rm ?_); refine AL.oq (centrR (eget_c g (lstR getE (countP r 6).2 j).2 hto.ok) (ent_fv rfl rfl (by kernel_rfl)) [0] ?_); rintro y os' ⟨rfl, rfl⟩; refine AL.noR ?_; refine AL.oq (AOpB.op (oA 1 ze_63 ?_)); refine AL.no ?_; refine AL.oq (oS sz_63 ?_); refine AL.no ?_; refine AL.nil (AW.seq (AW.g (AL.rm ?_))); refine AL.oq (calloR (rbad_c g (lstR getE (countP r 6).2 (j + 1)).2) [0] ?_); rintro y os' ⟨rfl, rfl⟩; refine AL.noR ?_; refine AL.nil (AW.cd rfl (fun h18 => ?_) (fun h18 => ?_))
   ·refine AW.g (AL.ra ?_); refine AL.nil (AW.ret ?_)
    repeat with_reducible first | refine thenA_ret ?_ | refine inBlockA_ret ?_
    with_reducible first | refine retO_ret ?_ | refine retO_normal ?_
    refine reso1R rfl (ResV.tmp rfl) rfl ?_
    have hb9 : badP (takeP getE r 6).2 = true := (by have := bad_lstR (get := getE) (fun r => bad_getE) (r := (countP r 6).2) (k := j + 1) (by assumption) (takeN r 6 - (j + 1)); rwa [show j + 1 + (takeN r 6 - (j + 1)) = takeN r 6 by omega] at this)
    exact ⟨[], _, rfl, rfl, (lstR_ok (fun _ => getE_ok) (h.count 6).ok (j + 1)).ok, (by rw [hb9]; assumption), fun hh => by simp_all⟩
   refine AW.skip ?_; change AW _ _ _ _ _; refine AW.region ?_; refine AL.rm ?_; refine AL.r (qN ag_63) ?_; refine AL.oq (AOpB.op (bs_set rfl ap_25 ze_63 rfl rfl ?_)); refine AL.no ?_; refine AL.oq (op_appendM rfl ap_25 rfl rfl (src_s rfl) (by simp only [List.length_map, List.length_cons, List.length_nil]; omega) (by simp only [List.length_map, List.length_cons, List.length_nil]; omega) ?_); refine AL.no ?_; refine AL.ra ?_; refine AL.nil ?_; change AW _ _ _ _ _; refine AW.region ?_; refine AL.r qA ?_; refine AL.rm ?_; refine AL.nil ?_; refine ⟨⟨j + 1, gL + 1⟩, ?_, by first | omega | (simp only []; omega), ?_, ?_⟩
   ·show j + 1 ≤ takeN r 6; omega
   ·exact wk
   simp only [anys, upds, offs, List.set_cons_zero, List.set_cons_succ]; repeat (first | exact Sk.nil _ | refine Sk.same _ ?_ | refine Sk.scr _ (by decide) ?_ | refine Sk.eq _ (by first | rfl | exact lst_row (f := EdgeD.cs)) ?_)
  refine AW.exit ?_; change AW _ _ _ _ _; refine AW.g (AL.rm ?_); refine AL.ra ?_; refine AL.nil (AW.ret ?_)
  repeat with_reducible first | refine thenA_ret ?_ | refine inBlockA_ret ?_
  with_reducible first | refine retO_ret ?_ | refine retO_normal ?_
  refine reso1R rfl (ResV.tmp rfl) (by first | exact resO_owM (by decide) rfl | exact resO_own (by decide) rfl | exact resO_set (by decide) rfl | exact resO_setM (by decide) rfl | exact resO_setN (by decide) rfl) ?_; obtain rfl : j = takeN r 6 := (by omega); exact ⟨_, _, rfl, rfl, hto.ok, rfl, fun _ => ⟨rfl, rfl⟩⟩
set_option maxHeartbeats 4000000 in
theorem takeo_c (g : Nat) (r : RdrD) (h : r.Ok) : ACo Try.prog 31 [.bx 0 g 0, .sc (.int .i64 6), .sc (.func (.func 32) #[] #[])] (RdrT g r) (fun y os' => ∃ l r', y = .sl (l.map OpD.cs) ∧ os' = RdrT g r' ∧ r'.Ok ∧ badP r' = badP (takeP getO r 6).2 ∧ (badP r' = false → l = (takeP getO r 6).1 ∧ r' = (takeP getO r 6).2)) := by
  obtain ⟨hc1, hc2⟩ := count_bd r (most := 6) (by omega)
  have hqn : ((takeN r 6 : Nat) : Int) = (countP r 6).1 := Int.toNat_of_nonneg hc1
  refine ACo.of' (st0 := [⟨g, .box 101 [.sl (byA r.b), .sc (.int .i64 r.f), .sc (.int .i64 r.at_), .sc (.bool r.bad)]⟩, TK.mk 0 .off, TK.mk 0 .off, TK.mk 0 .off, TK.mk 0 .off]) 22 4 Try.func31 rfl 1 ?_; refine AW.g (AL.ra ?_); refine AL.nil (AW.g (AL.ra ?_)); refine AL.nil (AW.seq (AW.g (AL.nil_own 7 4 67 15 rfl rfl ?_))); refine AL.n ?_; (iterate 2 refine AL.rm ?_); refine AL.oq (calloR (rcount_c g r h 6) [0] ?_); rintro y os' ⟨rfl, rfl⟩; refine AL.noR ?_; refine AL.rm ?_; refine AL.nil (AW.block (AW.loopM (ι := Nat × Nat) [6, 8, 13, 14, 15, 16, 17, 18, 19, 20, 21, 22, 23] (fun ⟨j, gL⟩ => [(12, AI (j : Int)), (7, .ow 4 gL)]) [1, 2, 3] (fun ⟨j, gL⟩ => [(4, ⟨gL, owM true 67 15 ((lstR getO (countP r 6).2 j).1.map OpD.cs)⟩), (0, ⟨g, .box 101 [.sl (byA (lstR getO (countP r 6).2 j).2.b), .sc (.int .i64 (lstR getO (countP r 6).2 j).2.f), .sc (.int .i64 (lstR getO (countP r 6).2 j).2.at_), .sc (.bool (lstR getO (countP r 6).2 j).2.bad)]⟩)]) (fun ⟨j, gL⟩ => j ≤ takeN r 6) (fun ⟨j, gL⟩ => takeN r 6 - j) ⟨0, 1⟩ (Nat.zero_le _) wk (by simp only [anys, upds, offs, List.set_cons_zero, List.set_cons_succ]; repeat (first | exact Sk.nil _ | refine Sk.same _ ?_ | refine Sk.scr _ (by decide) ?_ | refine Sk.eq _ (by rfl) ?_)) ?_))
  rintro ⟨j, gL⟩ gs hJ; refine AW.nm ?_
  have hto := lstR_ok (fun _ => getO_okx) (h.count 6).ok j
  have hln := lstR_len (get := getO) (countP r 6).2 j
  refine AW.g (AL.r qb ?_); refine AL.nil (AW.seq (AW.cd rfl (fun h13 => ?_) (fun h13 => ?_)))
  ·refine AW.skip (AW.seq (AW.block (AW.g ?_))); (iterate 2 refine AL.rm ?_); refine AL.oq (centrR (oget_y g (lstR getO (countP r 6).2 j).2 hto.ok) (ent_fv rfl rfl (by kernel_rfl)) [0] ?_); rintro y os' ⟨rfl, rfl⟩; refine AL.noR ?_; refine AL.oq (AOpB.op (oA 1 ze_67 ?_)); refine AL.no ?_; refine AL.oq (oS sz_67 ?_); refine AL.no ?_; refine AL.nil (AW.seq (AW.g (AL.rm ?_))); refine AL.oq (calloR (rbad_c g (lstR getO (countP r 6).2 (j + 1)).2) [0] ?_); rintro y os' ⟨rfl, rfl⟩; refine AL.noR ?_; refine AL.nil (AW.cd rfl (fun h18 => ?_) (fun h18 => ?_))
   ·refine AW.g (AL.ra ?_); refine AL.nil (AW.ret ?_)
    repeat with_reducible first | refine thenA_ret ?_ | refine inBlockA_ret ?_
    with_reducible first | refine retO_ret ?_ | refine retO_normal ?_
    refine reso1R rfl (ResV.tmp rfl) rfl ?_
    have hb9 : badP (takeP getO r 6).2 = true := (by have := bad_lstR (get := getO) (fun r => bad_getO) (r := (countP r 6).2) (k := j + 1) (by assumption) (takeN r 6 - (j + 1)); rwa [show j + 1 + (takeN r 6 - (j + 1)) = takeN r 6 by omega] at this)
    exact ⟨[], _, rfl, rfl, (lstR_ok (fun _ => getO_okx) (h.count 6).ok (j + 1)).ok, (by rw [hb9]; assumption), fun hh => by simp_all⟩
   refine AW.skip ?_; change AW _ _ _ _ _; refine AW.region ?_; refine AL.rm ?_; refine AL.r (qN ag_67) ?_; refine AL.oq (AOpB.op (bs_set rfl ap_26 ze_67 rfl rfl ?_)); refine AL.no ?_; refine AL.oq (op_appendM rfl ap_26 rfl rfl (src_s rfl) (by simp only [List.length_map, List.length_cons, List.length_nil]; omega) (by simp only [List.length_map, List.length_cons, List.length_nil]; omega) ?_); refine AL.no ?_; refine AL.ra ?_; refine AL.nil ?_; change AW _ _ _ _ _; refine AW.region ?_; refine AL.r qA ?_; refine AL.rm ?_; refine AL.nil ?_; refine ⟨⟨j + 1, gL + 1⟩, ?_, by first | omega | (simp only []; omega), ?_, ?_⟩
   ·show j + 1 ≤ takeN r 6; omega
   ·exact wk
   simp only [anys, upds, offs, List.set_cons_zero, List.set_cons_succ]; repeat (first | exact Sk.nil _ | refine Sk.same _ ?_ | refine Sk.scr _ (by decide) ?_ | refine Sk.eq _ (by first | rfl | exact lst_row (f := OpD.cs)) ?_)
  refine AW.exit ?_; change AW _ _ _ _ _; refine AW.g (AL.rm ?_); refine AL.ra ?_; refine AL.nil (AW.ret ?_)
  repeat with_reducible first | refine thenA_ret ?_ | refine inBlockA_ret ?_
  with_reducible first | refine retO_ret ?_ | refine retO_normal ?_
  refine reso1R rfl (ResV.tmp rfl) (by first | exact resO_owM (by decide) rfl | exact resO_own (by decide) rfl | exact resO_set (by decide) rfl | exact resO_setM (by decide) rfl | exact resO_setN (by decide) rfl) ?_; obtain rfl : j = takeN r 6 := (by omega); exact ⟨_, _, rfl, rfl, hto.ok, rfl, fun _ => ⟨rfl, rfl⟩⟩
def zN : NoteD := ⟨0, 0, 0, z6, [], [], []⟩
abbrev nR (rest : List UInt8) (c : UInt8) : RdrD := newR rest (c.toNat : Int)
def openK (r : RdrD) (f : Int) : NoteD × Int × Int := if okNt r then (noteR r, f, 0) else (zN, 0, 5)
theorem openK_t {r : RdrD} {f : Int} {n : NoteD} (h : okNt r = true) (e : noteR r = n) : openK r f = (n, f, 0) := by unfold openK; rw [if_pos h, e]
theorem openK_f {r : RdrD} {f : Int} (h : okNt r = false) : openK r f = (zN, 0, 5) := by unfold openK; rw [h, if_neg (by decide)]
section
variable {r r' : RdrD}
theorem end_bad (h : badP r' = true) : endP r' = 8 := by unfold endP; rw [if_pos (.inl h)]
theorem okN_of {n : NoteD} (hb : badP r' = badP (endR r)) (hl : badP r' = false → noteR r = n ∧ r' = endR r) : okNt r = (decide (endP r' = 0) && noteB n) ∧ (okNt r = true → noteR r = n) := by
  cases e : badP r' with
  | true =>
    have h1 : okNt r = false := okNt_bad (hb ▸ e)
    rw [h1, end_bad e]
    exact ⟨rfl, fun h => by cases h⟩
  | false =>
    obtain ⟨h1, h2⟩ := hl e
    refine ⟨?_, fun _ => h1⟩
    unfold okNt
    rw [h1, ← h2]
theorem okN_1 {l : List TagD} (hk : nk r = 1) (hb : badP r' = badP (takeP rtagP (o4 r) 40).2) (hl : badP r' = false → l = (takeP rtagP (o4 r) 40).1 ∧ r' = (takeP rtagP (o4 r) 40).2) : okNt r = (decide (endP r' = 0) && noteB ⟨1, nfr r, smP (numP (o2 r)).1, (rvecP (o3 r)).1, l, [], []⟩) ∧ (okNt r = true → noteR r = ⟨1, nfr r, smP (numP (o2 r)).1, (rvecP (o3 r)).1, l, [], []⟩) := by
  have he : endR r = (takeP rtagP (o4 r) 40).2 := by unfold endR; rw [if_pos hk]
  exact okN_of (by rw [he]; exact hb) fun h => by
    obtain ⟨h1, h2⟩ := hl h
    exact ⟨by unfold noteR; rw [if_pos hk, hk, h1], by rw [he]; exact h2⟩
theorem okN_2 {l : List EdgeD} (hk : nk r = 2) (hb : badP r' = badP (takeP getE (o2 r) 6).2) (hl : badP r' = false → l = (takeP getE (o2 r) 6).1 ∧ r' = (takeP getE (o2 r) 6).2) : okNt r = (decide (endP r' = 0) && noteB ⟨2, nfr r, 0, z6, [], l, []⟩) ∧ (okNt r = true → noteR r = ⟨2, nfr r, 0, z6, [], l, []⟩) := by
  have he : endR r = (takeP getE (o2 r) 6).2 := by unfold endR; rw [if_neg (by omega), if_pos hk]
  exact okN_of (by rw [he]; exact hb) fun h => by
    obtain ⟨h1, h2⟩ := hl h
    exact ⟨by unfold noteR; rw [if_neg (by omega), if_pos hk, hk, h1], by rw [he]; exact h2⟩
theorem okN_3 {l : List OpD} (hk : nk r = 3) (hb : badP r' = badP (takeP getO (o2 r) 6).2) (hl : badP r' = false → l = (takeP getO (o2 r) 6).1 ∧ r' = (takeP getO (o2 r) 6).2) : okNt r = (decide (endP r' = 0) && noteB ⟨3, nfr r, 0, z6, [], [], l⟩) ∧ (okNt r = true → noteR r = ⟨3, nfr r, 0, z6, [], [], l⟩) := by
  have he : endR r = (takeP getO (o2 r) 6).2 := by unfold endR; rw [if_neg (by omega), if_neg (by omega), if_pos hk]
  exact okN_of (by rw [he]; exact hb) fun h => by
    obtain ⟨h1, h2⟩ := hl h
    exact ⟨by unfold noteR; rw [if_neg (by omega), if_neg (by omega), if_pos hk, hk, h1], by rw [he]; exact h2⟩
theorem okN_4 (hk : nk r = 4) : okNt r = (decide (endP (rvecP (o2 r)).2 = 0) && noteB ⟨4, nfr r, 0, (rvecP (o2 r)).1, [], [], []⟩) ∧ (okNt r = true → noteR r = ⟨4, nfr r, 0, (rvecP (o2 r)).1, [], [], []⟩) := by
  have he : endR r = (rvecP (o2 r)).2 := by unfold endR; rw [if_neg (by omega), if_neg (by omega), if_neg (by omega), if_pos hk]
  exact okN_of (by rw [he]) fun h => ⟨by unfold noteR; rw [if_neg (by omega), if_neg (by omega), if_neg (by omega), if_pos hk, hk], by rw [he]⟩
theorem okN_o (h1 : ¬ nk r = 1) (h2 : ¬ nk r = 2) (h3 : ¬ nk r = 3) (h4 : ¬ nk r = 4) : okNt r = (decide (endP (o2 r) = 0) && noteB ⟨nk r, nfr r, 0, z6, [], [], []⟩) ∧ (okNt r = true → noteR r = ⟨nk r, nfr r, 0, z6, [], [], []⟩) := by
  have he : endR r = o2 r := by unfold endR; rw [if_neg h1, if_neg h2, if_neg h3, if_neg h4]
  exact okN_of (by rw [he]) fun h => ⟨by unfold noteR; rw [if_neg h1, if_neg h2, if_neg h3, if_neg h4], by rw [he]⟩
theorem o1_ok (h : r.Ok) : r.Of (o1 r) := h.num
theorem o2_ok (h : r.Ok) : r.Of (o2 r) := (o1_ok h).trans (o1_ok h).ok.num
theorem o3_ok (h : r.Ok) : r.Of (o3 r) := (o2_ok h).trans (o2_ok h).ok.num
theorem o4_ok (h : r.Ok) : r.Of (o4 r) := (o3_ok h).trans (rvec_ok (o3_ok h).ok)
end
theorem small_k (g : Nat) (r : RdrD) (h : r.Ok) (z : Int) (hk : nk r = z) : ACo Try.prog 25 [.bx 0 g 0] (RdrT g r) (fun y os' => y = AI z ∧ os' = RdrT g (o1 r)) := by
  subst hk; exact small_c g r h
section
variable (t : Nat → Nat) (l : List UInt8) (c : UInt8) (rest : List UInt8) (hrl : rest.length ≤ 60000) (hok : okF (c.toNat : Int) = true) (hg : AC Try.prog 23 [.sl (byA l), .sc (.int .i64 0), .sc (tabV t)] (fun r => r = .s (.tu [.sl (byA (c :: rest)), .sc (.int .i64 (l.length : Int)), .sc (.int .i64 0)])))
include hrl hok hg
set_option maxHeartbeats 4000000 in
theorem open_1 (hk : nk (nR rest c) = 1) : AC Try.prog 8 [.sc (tabV t), .sl (byA l)] (fun r => r = .s (.tu [.ag [AI ((openK (nR rest c) (c.toNat : Int)).1).kind, AI ((openK (nR rest c) (c.toNat : Int)).1).from_, AI ((openK (nR rest c) (c.toNat : Int)).1).fmt, AI ((openK (nR rest c) (c.toNat : Int)).1).have_.a, AI ((openK (nR rest c) (c.toNat : Int)).1).have_.b, AI ((openK (nR rest c) (c.toNat : Int)).1).have_.c, AI ((openK (nR rest c) (c.toNat : Int)).1).have_.d, AI ((openK (nR rest c) (c.toNat : Int)).1).have_.e, AI ((openK (nR rest c) (c.toNat : Int)).1).have_.f, .sl (((openK (nR rest c) (c.toNat : Int)).1).tags.map TagD.cs), .sl (((openK (nR rest c) (c.toNat : Int)).1).edges.map EdgeD.cs), .sl (((openK (nR rest c) (c.toNat : Int)).1).ops.map OpD.cs)], AI (openK (nR rest c) (c.toNat : Int)).2.1, AI (openK (nR rest c) (c.toNat : Int)).2.2])) := by
  have hc : c.toNat < 256 := UInt8.toNat_lt c
  have hR : (nR rest c).Ok := newR_ok (by omega) _
  refine AC.of' 91 4 Try.func8 rfl ?_; change AW _ _ _ _ [TK.mk 0 .off, TK.mk 0 .off, TK.mk 0 .off, TK.mk 0 .off]; refine AW.g (AL.oq (AOpB.op (op_tabbox 1 rfl rfl rfl ?_))); refine AL.no ?_; refine AL.oq (AOpB.op (oA 2 ze_28 ?_)); refine AL.no ?_; (iterate 2 refine AL.ra ?_); refine AL.nil (AW.g (AL.rm ?_)); refine AL.r (rd_tab0 rfl ag_33 rfl rfl) ?_; refine AL.cl (hg) ?_; refine AL.no ?_; refine AL.rm ?_; refine AL.r qe ?_; refine AL.r qe ?_; refine AL.r qe ?_; (iterate 3 refine AL.ra ?_); refine AL.nil (AW.seq (AW.g (AL.rm ?_))); refine AL.r qb ?_; refine AL.rm ?_; refine AL.fk (d := 22) rfl (fun h22 => ?_) (fun h22 => ?_)
  ·(exfalso; simp_all)
  refine AL.n ?_; refine AL.ro (rd_move rfl rfl) ?_; refine AL.ro (rd_move rfl rfl) ?_; refine AL.ro (lN el_35) ?_; refine AL.ro qb ?_; refine AL.r qf ?_; refine AL.nil (AW.cd rfl (fun h27 => ?_) (fun h27 => ?_))
  ·(exfalso; simp_all [byA_len])
  refine AW.skip (AW.seq (AW.g (AL.rm ?_))); refine AL.r (lN el_35) ?_; refine AL.r qb ?_; refine AL.rm ?_; refine AL.fk (d := 32) rfl (fun h32 => ?_) (fun h32 => ?_)
  ·(exfalso; simp_all [byA]; (try omega))
  refine AL.n ?_; refine AL.ro (rd_move rfl rfl) ?_; refine AL.ro (rd_iaddr_sl rfl el_35 rfl rfl (n := 0) rfl rfl rfl) ?_; refine AL.ro (rd_load_ep rfl ag_5 rfl rfl) ?_; refine AL.ro (rd_conv_int rfl iss_5 ik_3 rfl (IntWalk.i64_in _ (by omega))) ?_; refine AL.on rfl rfl rfl (AOpB.op (op_call (cright_t (c.toNat : Int) hok) rfl (by kernel_rfl) rfl (none) ?_)); rintro r rfl; refine AL.no ?_; refine AL.ro qu ?_; refine AL.r qf ?_; refine AL.nil (AW.cond_f rfl (AW.skip (AW.g (AL.rm ?_)))); refine AL.r (rd_iaddr_sl rfl el_35 rfl rfl (n := 0) rfl rfl rfl) ?_; refine AL.r (rd_load_ep rfl ag_5 rfl rfl) ?_; refine AL.r (rd_conv_int rfl iss_5 ik_3 rfl (IntWalk.i64_in _ (by omega))) ?_; refine AL.ra ?_; refine AL.nil (AW.g (AL.rm ?_)); refine AL.r (rd_by_from rfl el_35 rfl rfl (m := 1) rfl (by simp)) ?_; refine AL.rm ?_; refine AL.oq (calloR (rnew_c rest (by omega) (c.toNat : Int) 0) [0] ?_); rintro y os' ⟨rfl, rfl⟩; refine AL.noR ?_; refine AL.ra ?_; refine AL.nil (AW.g (AL.rm ?_)); refine AL.oq (calloR (small_k 1 (nR rest c) hR 1 hk) [0] ?_); rintro y os' ⟨rfl, rfl⟩; refine AL.noR ?_; refine AL.rm ?_; refine AL.oq (calloR (small_c 1 (o1 (nR rest c)) (o1_ok hR).ok) [0] ?_); rintro y os' ⟨rfl, rfl⟩; refine AL.noR ?_; refine AL.r (qB pl_28 ze_28) ?_; refine AL.oq (AOpB.op (oA 3 ze_28 ?_)); refine AL.no ?_; refine AL.oq (oS sz_28 ?_); refine AL.no ?_; refine AL.nil (AW.seq (AW.seq ?_))
  refine AW.region (AL.r (qa fo_28_0) ?_); refine AL.r (ql ag_3) ?_; refine AL.nil (AW.block (AW.g (AL.r qb ?_))); refine AL.ra ?_; refine AL.nil (AW.cond_t rfl (AW.g (AL.rm ?_))); refine AL.oq (calloR (small_c 1 (o2 (nR rest c)) (o2_ok hR).ok) [0] ?_); rintro y os' ⟨rfl, rfl⟩; refine AL.noR ?_; refine AL.r (qa fo_28_2) ?_; refine AL.oq (oS sz_3 ?_); refine AL.no ?_; refine AL.nil (AW.g (AL.rm ?_)); refine AL.oq (calloR (rvec_c 1 (o3 (nR rest c)) (o3_ok hR).ok) [0] ?_); rintro y os' ⟨rfl, rfl⟩; refine AL.noR ?_; refine AL.r (qa fo_28_3) ?_; refine AL.oq (oS sz_23 ?_); refine AL.no ?_; refine AL.nil (AW.region (AL.rm ?_)); refine AL.oq (calloR (taket_c 1 (o4 (nR rest c)) (o4_ok hR).ok) [0] ?_); rintro y os' ⟨l9, r9, rfl, rfl, h9, hb9, hl9⟩; refine AL.noR ?_; refine AL.r (qa fo_28_4) ?_; refine AL.oq (oS sz_24 ?_); refine AL.no ?_; refine AL.nil (AW.seq (AW.g ?_))
  have hkk := okN_1 hk hb9 hl9
  refine AL.rm ?_; refine AL.oq (calloR (rend_c 1 r9 h9) [0] ?_); rintro y os' ⟨rfl, rfl⟩; refine AL.noR ?_; refine AL.r qb ?_; refine AL.rm ?_; refine AL.fk (d := 85) rfl (fun h85 => ?_) (fun h85 => ?_)
  ·refine AL.n ?_; (iterate 3 refine AL.rf ?_); refine AL.r qt ?_; refine AL.nil (AW.cond_t rfl (AW.g (AL.r (qB pl_28 ze_28) ?_))); refine AL.oq (oS sz_28 ?_); refine AL.no ?_; (iterate 2 refine AL.ra ?_); refine AL.nil (AW.ret ?_); refine r3 ag_28 ?_; rw [openK_f (by rw [hkk.1]; simp_all)]; rfl
  refine AL.n ?_; refine AL.ro (qN ag_28) ?_; refine AL.on rfl rfl rfl (AOpB.op (op_call (tright_c ⟨1, nfr (nR rest c), smP (numP (o2 (nR rest c))).1, (rvecP (o3 (nR rest c))).1, l9, [], []⟩) rfl (by kernel_rfl) rfl (none) ?_)); rintro r rfl; refine AL.no ?_; refine AL.ro qu ?_; refine AL.r qf ?_; refine AL.nil (AW.cd rfl (fun h89 => ?_) (fun h89 => ?_))
  ·refine AW.g (AL.r (qB pl_28 ze_28) ?_); refine AL.oq (oS sz_28 ?_); refine AL.no ?_; (iterate 2 refine AL.ra ?_); refine AL.nil (AW.ret ?_); refine r3 ag_28 ?_; rw [openK_f (by rw [hkk.1]; simp_all)]; rfl
  refine AW.skip (AW.g (AL.r (qN ag_28) ?_)); refine AL.rm ?_; refine AL.oq (oS sz_28 ?_); refine AL.no ?_; (iterate 2 refine AL.ra ?_); refine AL.nil (AW.ret ?_); refine r3 ag_28 ?_
  have hkt : okNt (nR rest c) = true := (by rw [hkk.1]; simp_all)
  rw [openK_t hkt (hkk.2 hkt)]; rfl
set_option maxHeartbeats 4000000 in
theorem open_2 (hk : nk (nR rest c) = 2) : AC Try.prog 8 [.sc (tabV t), .sl (byA l)] (fun r => r = .s (.tu [.ag [AI ((openK (nR rest c) (c.toNat : Int)).1).kind, AI ((openK (nR rest c) (c.toNat : Int)).1).from_, AI ((openK (nR rest c) (c.toNat : Int)).1).fmt, AI ((openK (nR rest c) (c.toNat : Int)).1).have_.a, AI ((openK (nR rest c) (c.toNat : Int)).1).have_.b, AI ((openK (nR rest c) (c.toNat : Int)).1).have_.c, AI ((openK (nR rest c) (c.toNat : Int)).1).have_.d, AI ((openK (nR rest c) (c.toNat : Int)).1).have_.e, AI ((openK (nR rest c) (c.toNat : Int)).1).have_.f, .sl (((openK (nR rest c) (c.toNat : Int)).1).tags.map TagD.cs), .sl (((openK (nR rest c) (c.toNat : Int)).1).edges.map EdgeD.cs), .sl (((openK (nR rest c) (c.toNat : Int)).1).ops.map OpD.cs)], AI (openK (nR rest c) (c.toNat : Int)).2.1, AI (openK (nR rest c) (c.toNat : Int)).2.2])) := by
  have hc : c.toNat < 256 := UInt8.toNat_lt c
  have hR : (nR rest c).Ok := newR_ok (by omega) _
  refine AC.of' 91 4 Try.func8 rfl ?_; change AW _ _ _ _ [TK.mk 0 .off, TK.mk 0 .off, TK.mk 0 .off, TK.mk 0 .off]; refine AW.g (AL.oq (AOpB.op (op_tabbox 1 rfl rfl rfl ?_))); refine AL.no ?_; refine AL.oq (AOpB.op (oA 2 ze_28 ?_)); refine AL.no ?_; (iterate 2 refine AL.ra ?_); refine AL.nil (AW.g (AL.rm ?_)); refine AL.r (rd_tab0 rfl ag_33 rfl rfl) ?_; refine AL.cl (hg) ?_; refine AL.no ?_; refine AL.rm ?_; refine AL.r qe ?_; refine AL.r qe ?_; refine AL.r qe ?_; (iterate 3 refine AL.ra ?_); refine AL.nil (AW.seq (AW.g (AL.rm ?_))); refine AL.r qb ?_; refine AL.rm ?_; refine AL.fk (d := 22) rfl (fun h22 => ?_) (fun h22 => ?_)
  ·(exfalso; simp_all)
  refine AL.n ?_; refine AL.ro (rd_move rfl rfl) ?_; refine AL.ro (rd_move rfl rfl) ?_; refine AL.ro (lN el_35) ?_; refine AL.ro qb ?_; refine AL.r qf ?_; refine AL.nil (AW.cd rfl (fun h27 => ?_) (fun h27 => ?_))
  ·(exfalso; simp_all [byA_len])
  refine AW.skip (AW.seq (AW.g (AL.rm ?_))); refine AL.r (lN el_35) ?_; refine AL.r qb ?_; refine AL.rm ?_; refine AL.fk (d := 32) rfl (fun h32 => ?_) (fun h32 => ?_)
  ·(exfalso; simp_all [byA]; (try omega))
  refine AL.n ?_; refine AL.ro (rd_move rfl rfl) ?_; refine AL.ro (rd_iaddr_sl rfl el_35 rfl rfl (n := 0) rfl rfl rfl) ?_; refine AL.ro (rd_load_ep rfl ag_5 rfl rfl) ?_; refine AL.ro (rd_conv_int rfl iss_5 ik_3 rfl (IntWalk.i64_in _ (by omega))) ?_; refine AL.on rfl rfl rfl (AOpB.op (op_call (cright_t (c.toNat : Int) hok) rfl (by kernel_rfl) rfl (none) ?_)); rintro r rfl; refine AL.no ?_; refine AL.ro qu ?_; refine AL.r qf ?_; refine AL.nil (AW.cond_f rfl (AW.skip (AW.g (AL.rm ?_)))); refine AL.r (rd_iaddr_sl rfl el_35 rfl rfl (n := 0) rfl rfl rfl) ?_; refine AL.r (rd_load_ep rfl ag_5 rfl rfl) ?_; refine AL.r (rd_conv_int rfl iss_5 ik_3 rfl (IntWalk.i64_in _ (by omega))) ?_; refine AL.ra ?_; refine AL.nil (AW.g (AL.rm ?_)); refine AL.r (rd_by_from rfl el_35 rfl rfl (m := 1) rfl (by simp)) ?_; refine AL.rm ?_; refine AL.oq (calloR (rnew_c rest (by omega) (c.toNat : Int) 0) [0] ?_); rintro y os' ⟨rfl, rfl⟩; refine AL.noR ?_; refine AL.ra ?_; refine AL.nil (AW.g (AL.rm ?_)); refine AL.oq (calloR (small_k 1 (nR rest c) hR 2 hk) [0] ?_); rintro y os' ⟨rfl, rfl⟩; refine AL.noR ?_; refine AL.rm ?_; refine AL.oq (calloR (small_c 1 (o1 (nR rest c)) (o1_ok hR).ok) [0] ?_); rintro y os' ⟨rfl, rfl⟩; refine AL.noR ?_; refine AL.r (qB pl_28 ze_28) ?_; refine AL.oq (AOpB.op (oA 3 ze_28 ?_)); refine AL.no ?_; refine AL.oq (oS sz_28 ?_); refine AL.no ?_; refine AL.nil (AW.seq (AW.seq ?_))
  refine AW.region (AL.r (qa fo_28_0) ?_); refine AL.r (ql ag_3) ?_; refine AL.nil (AW.block (AW.g (AL.r qb ?_))); refine AL.ra ?_; refine AL.nil (AW.cond_f rfl (AW.g (AL.r qb ?_))); refine AL.ra ?_; refine AL.nil (AW.cond_t rfl (AW.region (AL.rm ?_))); refine AL.oq (calloR (takee_c 1 (o2 (nR rest c)) (o2_ok hR).ok) [0] ?_); rintro y os' ⟨l9, r9, rfl, rfl, h9, hb9, hl9⟩; refine AL.noR ?_; refine AL.r (qa fo_28_5) ?_; refine AL.oq (oS sz_25 ?_); refine AL.no ?_; refine AL.nil (AW.seq (AW.g ?_))
  have hkk := okN_2 hk hb9 hl9
  refine AL.rm ?_; refine AL.oq (calloR (rend_c 1 r9 h9) [0] ?_); rintro y os' ⟨rfl, rfl⟩; refine AL.noR ?_; refine AL.r qb ?_; refine AL.rm ?_; refine AL.fk (d := 85) rfl (fun h85 => ?_) (fun h85 => ?_)
  ·refine AL.n ?_; (iterate 3 refine AL.rf ?_); refine AL.r qt ?_; refine AL.nil (AW.cond_t rfl (AW.g (AL.r (qB pl_28 ze_28) ?_))); refine AL.oq (oS sz_28 ?_); refine AL.no ?_; (iterate 2 refine AL.ra ?_); refine AL.nil (AW.ret ?_); refine r3 ag_28 ?_; rw [openK_f (by rw [hkk.1]; simp_all)]; rfl
  refine AL.n ?_; refine AL.ro (qN ag_28) ?_; refine AL.on rfl rfl rfl (AOpB.op (op_call (tright_c ⟨2, nfr (nR rest c), 0, z6, [], l9, []⟩) rfl (by kernel_rfl) rfl (none) ?_)); rintro r rfl; refine AL.no ?_; refine AL.ro qu ?_; refine AL.r qf ?_; refine AL.nil (AW.cd rfl (fun h89 => ?_) (fun h89 => ?_))
  ·refine AW.g (AL.r (qB pl_28 ze_28) ?_); refine AL.oq (oS sz_28 ?_); refine AL.no ?_; (iterate 2 refine AL.ra ?_); refine AL.nil (AW.ret ?_); refine r3 ag_28 ?_; rw [openK_f (by rw [hkk.1]; simp_all)]; rfl
  refine AW.skip (AW.g (AL.r (qN ag_28) ?_)); refine AL.rm ?_; refine AL.oq (oS sz_28 ?_); refine AL.no ?_; (iterate 2 refine AL.ra ?_); refine AL.nil (AW.ret ?_); refine r3 ag_28 ?_
  have hkt : okNt (nR rest c) = true := (by rw [hkk.1]; simp_all)
  rw [openK_t hkt (hkk.2 hkt)]; rfl
set_option maxHeartbeats 4000000 in
theorem open_3 (hk : nk (nR rest c) = 3) : AC Try.prog 8 [.sc (tabV t), .sl (byA l)] (fun r => r = .s (.tu [.ag [AI ((openK (nR rest c) (c.toNat : Int)).1).kind, AI ((openK (nR rest c) (c.toNat : Int)).1).from_, AI ((openK (nR rest c) (c.toNat : Int)).1).fmt, AI ((openK (nR rest c) (c.toNat : Int)).1).have_.a, AI ((openK (nR rest c) (c.toNat : Int)).1).have_.b, AI ((openK (nR rest c) (c.toNat : Int)).1).have_.c, AI ((openK (nR rest c) (c.toNat : Int)).1).have_.d, AI ((openK (nR rest c) (c.toNat : Int)).1).have_.e, AI ((openK (nR rest c) (c.toNat : Int)).1).have_.f, .sl (((openK (nR rest c) (c.toNat : Int)).1).tags.map TagD.cs), .sl (((openK (nR rest c) (c.toNat : Int)).1).edges.map EdgeD.cs), .sl (((openK (nR rest c) (c.toNat : Int)).1).ops.map OpD.cs)], AI (openK (nR rest c) (c.toNat : Int)).2.1, AI (openK (nR rest c) (c.toNat : Int)).2.2])) := by
  have hc : c.toNat < 256 := UInt8.toNat_lt c
  have hR : (nR rest c).Ok := newR_ok (by omega) _
  refine AC.of' 91 4 Try.func8 rfl ?_; change AW _ _ _ _ [TK.mk 0 .off, TK.mk 0 .off, TK.mk 0 .off, TK.mk 0 .off]; refine AW.g (AL.oq (AOpB.op (op_tabbox 1 rfl rfl rfl ?_))); refine AL.no ?_; refine AL.oq (AOpB.op (oA 2 ze_28 ?_)); refine AL.no ?_; (iterate 2 refine AL.ra ?_); refine AL.nil (AW.g (AL.rm ?_)); refine AL.r (rd_tab0 rfl ag_33 rfl rfl) ?_; refine AL.cl (hg) ?_; refine AL.no ?_; refine AL.rm ?_; refine AL.r qe ?_; refine AL.r qe ?_; refine AL.r qe ?_; (iterate 3 refine AL.ra ?_); refine AL.nil (AW.seq (AW.g (AL.rm ?_))); refine AL.r qb ?_; refine AL.rm ?_; refine AL.fk (d := 22) rfl (fun h22 => ?_) (fun h22 => ?_)
  ·(exfalso; simp_all)
  refine AL.n ?_; refine AL.ro (rd_move rfl rfl) ?_; refine AL.ro (rd_move rfl rfl) ?_; refine AL.ro (lN el_35) ?_; refine AL.ro qb ?_; refine AL.r qf ?_; refine AL.nil (AW.cd rfl (fun h27 => ?_) (fun h27 => ?_))
  ·(exfalso; simp_all [byA_len])
  refine AW.skip (AW.seq (AW.g (AL.rm ?_))); refine AL.r (lN el_35) ?_; refine AL.r qb ?_; refine AL.rm ?_; refine AL.fk (d := 32) rfl (fun h32 => ?_) (fun h32 => ?_)
  ·(exfalso; simp_all [byA]; (try omega))
  refine AL.n ?_; refine AL.ro (rd_move rfl rfl) ?_; refine AL.ro (rd_iaddr_sl rfl el_35 rfl rfl (n := 0) rfl rfl rfl) ?_; refine AL.ro (rd_load_ep rfl ag_5 rfl rfl) ?_; refine AL.ro (rd_conv_int rfl iss_5 ik_3 rfl (IntWalk.i64_in _ (by omega))) ?_; refine AL.on rfl rfl rfl (AOpB.op (op_call (cright_t (c.toNat : Int) hok) rfl (by kernel_rfl) rfl (none) ?_)); rintro r rfl; refine AL.no ?_; refine AL.ro qu ?_; refine AL.r qf ?_; refine AL.nil (AW.cond_f rfl (AW.skip (AW.g (AL.rm ?_)))); refine AL.r (rd_iaddr_sl rfl el_35 rfl rfl (n := 0) rfl rfl rfl) ?_; refine AL.r (rd_load_ep rfl ag_5 rfl rfl) ?_; refine AL.r (rd_conv_int rfl iss_5 ik_3 rfl (IntWalk.i64_in _ (by omega))) ?_; refine AL.ra ?_; refine AL.nil (AW.g (AL.rm ?_)); refine AL.r (rd_by_from rfl el_35 rfl rfl (m := 1) rfl (by simp)) ?_; refine AL.rm ?_; refine AL.oq (calloR (rnew_c rest (by omega) (c.toNat : Int) 0) [0] ?_); rintro y os' ⟨rfl, rfl⟩; refine AL.noR ?_; refine AL.ra ?_; refine AL.nil (AW.g (AL.rm ?_)); refine AL.oq (calloR (small_k 1 (nR rest c) hR 3 hk) [0] ?_); rintro y os' ⟨rfl, rfl⟩; refine AL.noR ?_; refine AL.rm ?_; refine AL.oq (calloR (small_c 1 (o1 (nR rest c)) (o1_ok hR).ok) [0] ?_); rintro y os' ⟨rfl, rfl⟩; refine AL.noR ?_; refine AL.r (qB pl_28 ze_28) ?_; refine AL.oq (AOpB.op (oA 3 ze_28 ?_)); refine AL.no ?_; refine AL.oq (oS sz_28 ?_); refine AL.no ?_; refine AL.nil (AW.seq (AW.seq ?_))
  refine AW.region (AL.r (qa fo_28_0) ?_); refine AL.r (ql ag_3) ?_; refine AL.nil (AW.block (AW.g (AL.r qb ?_))); refine AL.ra ?_; refine AL.nil (AW.cond_f rfl (AW.g (AL.r qb ?_))); refine AL.ra ?_; refine AL.nil (AW.cond_f rfl (AW.g (AL.r qb ?_))); refine AL.ra ?_; refine AL.nil (AW.cond_t rfl (AW.region (AL.rm ?_))); refine AL.oq (calloR (takeo_c 1 (o2 (nR rest c)) (o2_ok hR).ok) [0] ?_); rintro y os' ⟨l9, r9, rfl, rfl, h9, hb9, hl9⟩; refine AL.noR ?_; refine AL.r (qa fo_28_6) ?_; refine AL.oq (oS sz_26 ?_); refine AL.no ?_; refine AL.nil (AW.seq (AW.g ?_))
  have hkk := okN_3 hk hb9 hl9
  refine AL.rm ?_; refine AL.oq (calloR (rend_c 1 r9 h9) [0] ?_); rintro y os' ⟨rfl, rfl⟩; refine AL.noR ?_; refine AL.r qb ?_; refine AL.rm ?_; refine AL.fk (d := 85) rfl (fun h85 => ?_) (fun h85 => ?_)
  ·refine AL.n ?_; (iterate 3 refine AL.rf ?_); refine AL.r qt ?_; refine AL.nil (AW.cond_t rfl (AW.g (AL.r (qB pl_28 ze_28) ?_))); refine AL.oq (oS sz_28 ?_); refine AL.no ?_; (iterate 2 refine AL.ra ?_); refine AL.nil (AW.ret ?_); refine r3 ag_28 ?_; rw [openK_f (by rw [hkk.1]; simp_all)]; rfl
  refine AL.n ?_; refine AL.ro (qN ag_28) ?_; refine AL.on rfl rfl rfl (AOpB.op (op_call (tright_c ⟨3, nfr (nR rest c), 0, z6, [], [], l9⟩) rfl (by kernel_rfl) rfl (none) ?_)); rintro r rfl; refine AL.no ?_; refine AL.ro qu ?_; refine AL.r qf ?_; refine AL.nil (AW.cd rfl (fun h89 => ?_) (fun h89 => ?_))
  ·refine AW.g (AL.r (qB pl_28 ze_28) ?_); refine AL.oq (oS sz_28 ?_); refine AL.no ?_; (iterate 2 refine AL.ra ?_); refine AL.nil (AW.ret ?_); refine r3 ag_28 ?_; rw [openK_f (by rw [hkk.1]; simp_all)]; rfl
  refine AW.skip (AW.g (AL.r (qN ag_28) ?_)); refine AL.rm ?_; refine AL.oq (oS sz_28 ?_); refine AL.no ?_; (iterate 2 refine AL.ra ?_); refine AL.nil (AW.ret ?_); refine r3 ag_28 ?_
  have hkt : okNt (nR rest c) = true := (by rw [hkk.1]; simp_all)
  rw [openK_t hkt (hkk.2 hkt)]; rfl
set_option maxHeartbeats 4000000 in
theorem open_4 (hk : nk (nR rest c) = 4) : AC Try.prog 8 [.sc (tabV t), .sl (byA l)] (fun r => r = .s (.tu [.ag [AI ((openK (nR rest c) (c.toNat : Int)).1).kind, AI ((openK (nR rest c) (c.toNat : Int)).1).from_, AI ((openK (nR rest c) (c.toNat : Int)).1).fmt, AI ((openK (nR rest c) (c.toNat : Int)).1).have_.a, AI ((openK (nR rest c) (c.toNat : Int)).1).have_.b, AI ((openK (nR rest c) (c.toNat : Int)).1).have_.c, AI ((openK (nR rest c) (c.toNat : Int)).1).have_.d, AI ((openK (nR rest c) (c.toNat : Int)).1).have_.e, AI ((openK (nR rest c) (c.toNat : Int)).1).have_.f, .sl (((openK (nR rest c) (c.toNat : Int)).1).tags.map TagD.cs), .sl (((openK (nR rest c) (c.toNat : Int)).1).edges.map EdgeD.cs), .sl (((openK (nR rest c) (c.toNat : Int)).1).ops.map OpD.cs)], AI (openK (nR rest c) (c.toNat : Int)).2.1, AI (openK (nR rest c) (c.toNat : Int)).2.2])) := by
  have hc : c.toNat < 256 := UInt8.toNat_lt c
  have hR : (nR rest c).Ok := newR_ok (by omega) _
  refine AC.of' 91 4 Try.func8 rfl ?_; change AW _ _ _ _ [TK.mk 0 .off, TK.mk 0 .off, TK.mk 0 .off, TK.mk 0 .off]; refine AW.g (AL.oq (AOpB.op (op_tabbox 1 rfl rfl rfl ?_))); refine AL.no ?_; refine AL.oq (AOpB.op (oA 2 ze_28 ?_)); refine AL.no ?_; (iterate 2 refine AL.ra ?_); refine AL.nil (AW.g (AL.rm ?_)); refine AL.r (rd_tab0 rfl ag_33 rfl rfl) ?_; refine AL.cl (hg) ?_; refine AL.no ?_; refine AL.rm ?_; refine AL.r qe ?_; refine AL.r qe ?_; refine AL.r qe ?_; (iterate 3 refine AL.ra ?_); refine AL.nil (AW.seq (AW.g (AL.rm ?_))); refine AL.r qb ?_; refine AL.rm ?_; refine AL.fk (d := 22) rfl (fun h22 => ?_) (fun h22 => ?_)
  ·(exfalso; simp_all)
  refine AL.n ?_; refine AL.ro (rd_move rfl rfl) ?_; refine AL.ro (rd_move rfl rfl) ?_; refine AL.ro (lN el_35) ?_; refine AL.ro qb ?_; refine AL.r qf ?_; refine AL.nil (AW.cd rfl (fun h27 => ?_) (fun h27 => ?_))
  ·(exfalso; simp_all [byA_len])
  refine AW.skip (AW.seq (AW.g (AL.rm ?_))); refine AL.r (lN el_35) ?_; refine AL.r qb ?_; refine AL.rm ?_; refine AL.fk (d := 32) rfl (fun h32 => ?_) (fun h32 => ?_)
  ·(exfalso; simp_all [byA]; (try omega))
  refine AL.n ?_; refine AL.ro (rd_move rfl rfl) ?_; refine AL.ro (rd_iaddr_sl rfl el_35 rfl rfl (n := 0) rfl rfl rfl) ?_; refine AL.ro (rd_load_ep rfl ag_5 rfl rfl) ?_; refine AL.ro (rd_conv_int rfl iss_5 ik_3 rfl (IntWalk.i64_in _ (by omega))) ?_; refine AL.on rfl rfl rfl (AOpB.op (op_call (cright_t (c.toNat : Int) hok) rfl (by kernel_rfl) rfl (none) ?_)); rintro r rfl; refine AL.no ?_; refine AL.ro qu ?_; refine AL.r qf ?_; refine AL.nil (AW.cond_f rfl (AW.skip (AW.g (AL.rm ?_)))); refine AL.r (rd_iaddr_sl rfl el_35 rfl rfl (n := 0) rfl rfl rfl) ?_; refine AL.r (rd_load_ep rfl ag_5 rfl rfl) ?_; refine AL.r (rd_conv_int rfl iss_5 ik_3 rfl (IntWalk.i64_in _ (by omega))) ?_; refine AL.ra ?_; refine AL.nil (AW.g (AL.rm ?_)); refine AL.r (rd_by_from rfl el_35 rfl rfl (m := 1) rfl (by simp)) ?_; refine AL.rm ?_; refine AL.oq (calloR (rnew_c rest (by omega) (c.toNat : Int) 0) [0] ?_); rintro y os' ⟨rfl, rfl⟩; refine AL.noR ?_; refine AL.ra ?_; refine AL.nil (AW.g (AL.rm ?_)); refine AL.oq (calloR (small_k 1 (nR rest c) hR 4 hk) [0] ?_); rintro y os' ⟨rfl, rfl⟩; refine AL.noR ?_; refine AL.rm ?_; refine AL.oq (calloR (small_c 1 (o1 (nR rest c)) (o1_ok hR).ok) [0] ?_); rintro y os' ⟨rfl, rfl⟩; refine AL.noR ?_; refine AL.r (qB pl_28 ze_28) ?_; refine AL.oq (AOpB.op (oA 3 ze_28 ?_)); refine AL.no ?_; refine AL.oq (oS sz_28 ?_); refine AL.no ?_; refine AL.nil (AW.seq (AW.seq ?_))
  refine AW.region (AL.r (qa fo_28_0) ?_); refine AL.r (ql ag_3) ?_; refine AL.nil (AW.block (AW.g (AL.r qb ?_))); refine AL.ra ?_; refine AL.nil (AW.cond_f rfl (AW.g (AL.r qb ?_))); refine AL.ra ?_; refine AL.nil (AW.cond_f rfl (AW.g (AL.r qb ?_))); refine AL.ra ?_; refine AL.nil (AW.cond_f rfl (AW.g (AL.r qb ?_))); refine AL.ra ?_; refine AL.nil (AW.cond_t rfl (AW.region (AL.rm ?_))); refine AL.oq (calloR (rvec_c 1 (o2 (nR rest c)) (o2_ok hR).ok) [0] ?_); rintro y os' ⟨rfl, rfl⟩; refine AL.noR ?_; refine AL.r (qa fo_28_3) ?_; refine AL.oq (oS sz_23 ?_); refine AL.no ?_; refine AL.nil (AW.seq (AW.g ?_))
  have hkk := okN_4 hk
  refine AL.rm ?_; refine AL.oq (calloR (rend_c 1 (rvecP (o2 (nR rest c))).2 (rvec_ok (o2_ok hR).ok).ok) [0] ?_); rintro y os' ⟨rfl, rfl⟩; refine AL.noR ?_; refine AL.r qb ?_; refine AL.rm ?_; refine AL.fk (d := 85) rfl (fun h85 => ?_) (fun h85 => ?_)
  ·refine AL.n ?_; (iterate 3 refine AL.rf ?_); refine AL.r qt ?_; refine AL.nil (AW.cond_t rfl (AW.g (AL.r (qB pl_28 ze_28) ?_))); refine AL.oq (oS sz_28 ?_); refine AL.no ?_; (iterate 2 refine AL.ra ?_); refine AL.nil (AW.ret ?_); refine r3 ag_28 ?_; rw [openK_f (by rw [hkk.1]; simp_all)]; rfl
  refine AL.n ?_; refine AL.ro (qN ag_28) ?_; refine AL.on rfl rfl rfl (AOpB.op (op_call (tright_c ⟨4, nfr (nR rest c), 0, (rvecP (o2 (nR rest c))).1, [], [], []⟩) rfl (by kernel_rfl) rfl (none) ?_)); rintro r rfl; refine AL.no ?_; refine AL.ro qu ?_; refine AL.r qf ?_; refine AL.nil (AW.cd rfl (fun h89 => ?_) (fun h89 => ?_))
  ·refine AW.g (AL.r (qB pl_28 ze_28) ?_); refine AL.oq (oS sz_28 ?_); refine AL.no ?_; (iterate 2 refine AL.ra ?_); refine AL.nil (AW.ret ?_); refine r3 ag_28 ?_; rw [openK_f (by rw [hkk.1]; simp_all)]; rfl
  refine AW.skip (AW.g (AL.r (qN ag_28) ?_)); refine AL.rm ?_; refine AL.oq (oS sz_28 ?_); refine AL.no ?_; (iterate 2 refine AL.ra ?_); refine AL.nil (AW.ret ?_); refine r3 ag_28 ?_
  have hkt : okNt (nR rest c) = true := (by rw [hkk.1]; simp_all)
  rw [openK_t hkt (hkk.2 hkt)]; rfl
set_option maxHeartbeats 4000000 in
theorem open_o (n1 : ¬ nk (nR rest c) = 1) (n2 : ¬ nk (nR rest c) = 2) (n3 : ¬ nk (nR rest c) = 3) (n4 : ¬ nk (nR rest c) = 4) : AC Try.prog 8 [.sc (tabV t), .sl (byA l)] (fun r => r = .s (.tu [.ag [AI ((openK (nR rest c) (c.toNat : Int)).1).kind, AI ((openK (nR rest c) (c.toNat : Int)).1).from_, AI ((openK (nR rest c) (c.toNat : Int)).1).fmt, AI ((openK (nR rest c) (c.toNat : Int)).1).have_.a, AI ((openK (nR rest c) (c.toNat : Int)).1).have_.b, AI ((openK (nR rest c) (c.toNat : Int)).1).have_.c, AI ((openK (nR rest c) (c.toNat : Int)).1).have_.d, AI ((openK (nR rest c) (c.toNat : Int)).1).have_.e, AI ((openK (nR rest c) (c.toNat : Int)).1).have_.f, .sl (((openK (nR rest c) (c.toNat : Int)).1).tags.map TagD.cs), .sl (((openK (nR rest c) (c.toNat : Int)).1).edges.map EdgeD.cs), .sl (((openK (nR rest c) (c.toNat : Int)).1).ops.map OpD.cs)], AI (openK (nR rest c) (c.toNat : Int)).2.1, AI (openK (nR rest c) (c.toNat : Int)).2.2])) := by
  have hc : c.toNat < 256 := UInt8.toNat_lt c
  have hR : (nR rest c).Ok := newR_ok (by omega) _
  refine AC.of' 91 4 Try.func8 rfl ?_; change AW _ _ _ _ [TK.mk 0 .off, TK.mk 0 .off, TK.mk 0 .off, TK.mk 0 .off]; refine AW.g (AL.oq (AOpB.op (op_tabbox 1 rfl rfl rfl ?_))); refine AL.no ?_; refine AL.oq (AOpB.op (oA 2 ze_28 ?_)); refine AL.no ?_; (iterate 2 refine AL.ra ?_); refine AL.nil (AW.g (AL.rm ?_)); refine AL.r (rd_tab0 rfl ag_33 rfl rfl) ?_; refine AL.cl (hg) ?_; refine AL.no ?_; refine AL.rm ?_; refine AL.r qe ?_; refine AL.r qe ?_; refine AL.r qe ?_; (iterate 3 refine AL.ra ?_); refine AL.nil (AW.seq (AW.g (AL.rm ?_))); refine AL.r qb ?_; refine AL.rm ?_; refine AL.fk (d := 22) rfl (fun h22 => ?_) (fun h22 => ?_)
  ·(exfalso; simp_all)
  refine AL.n ?_; refine AL.ro (rd_move rfl rfl) ?_; refine AL.ro (rd_move rfl rfl) ?_; refine AL.ro (lN el_35) ?_; refine AL.ro qb ?_; refine AL.r qf ?_; refine AL.nil (AW.cd rfl (fun h27 => ?_) (fun h27 => ?_))
  ·(exfalso; simp_all [byA_len])
  refine AW.skip (AW.seq (AW.g (AL.rm ?_))); refine AL.r (lN el_35) ?_; refine AL.r qb ?_; refine AL.rm ?_; refine AL.fk (d := 32) rfl (fun h32 => ?_) (fun h32 => ?_)
  ·(exfalso; simp_all [byA]; (try omega))
  refine AL.n ?_; refine AL.ro (rd_move rfl rfl) ?_; refine AL.ro (rd_iaddr_sl rfl el_35 rfl rfl (n := 0) rfl rfl rfl) ?_; refine AL.ro (rd_load_ep rfl ag_5 rfl rfl) ?_; refine AL.ro (rd_conv_int rfl iss_5 ik_3 rfl (IntWalk.i64_in _ (by omega))) ?_; refine AL.on rfl rfl rfl (AOpB.op (op_call (cright_t (c.toNat : Int) hok) rfl (by kernel_rfl) rfl (none) ?_)); rintro r rfl; refine AL.no ?_; refine AL.ro qu ?_; refine AL.r qf ?_; refine AL.nil (AW.cond_f rfl (AW.skip (AW.g (AL.rm ?_)))); refine AL.r (rd_iaddr_sl rfl el_35 rfl rfl (n := 0) rfl rfl rfl) ?_; refine AL.r (rd_load_ep rfl ag_5 rfl rfl) ?_; refine AL.r (rd_conv_int rfl iss_5 ik_3 rfl (IntWalk.i64_in _ (by omega))) ?_; refine AL.ra ?_; refine AL.nil (AW.g (AL.rm ?_)); refine AL.r (rd_by_from rfl el_35 rfl rfl (m := 1) rfl (by simp)) ?_; refine AL.rm ?_; refine AL.oq (calloR (rnew_c rest (by omega) (c.toNat : Int) 0) [0] ?_); rintro y os' ⟨rfl, rfl⟩; refine AL.noR ?_; refine AL.ra ?_; refine AL.nil (AW.g (AL.rm ?_)); refine AL.oq (calloR (small_k 1 (nR rest c) hR (nk (nR rest c)) rfl) [0] ?_); rintro y os' ⟨rfl, rfl⟩; refine AL.noR ?_; refine AL.rm ?_; refine AL.oq (calloR (small_c 1 (o1 (nR rest c)) (o1_ok hR).ok) [0] ?_); rintro y os' ⟨rfl, rfl⟩; refine AL.noR ?_; refine AL.r (qB pl_28 ze_28) ?_; refine AL.oq (AOpB.op (oA 3 ze_28 ?_)); refine AL.no ?_; refine AL.oq (oS sz_28 ?_); refine AL.no ?_; refine AL.nil ?_
  refine AW.seq (AW.g (AL.r (qa fo_28_0) ?_)); refine AL.r (ql ag_3) ?_; refine AL.nil (AW.block (AW.g (AL.r qb ?_))); refine AL.ra ?_; refine AL.nil (AW.cd rfl (fun h56 => ?_) (fun h56 => ?_))
  ·(exfalso; exact n1 (by assumption))
  refine AW.g (AL.r qb ?_); refine AL.ra ?_; refine AL.nil (AW.cd rfl (fun h67 => ?_) (fun h67 => ?_))
  ·(exfalso; exact n2 (by assumption))
  refine AW.g (AL.r qb ?_); refine AL.ra ?_; refine AL.nil (AW.cd rfl (fun h72 => ?_) (fun h72 => ?_))
  ·(exfalso; exact n3 (by assumption))
  refine AW.g (AL.r qb ?_); refine AL.ra ?_; refine AL.nil (AW.cd rfl (fun h77 => ?_) (fun h77 => ?_))
  ·(exfalso; exact n4 (by assumption))
  refine AW.skip (AW.seq (AW.g ?_))
  have hkk := okN_o n1 n2 n3 n4
  refine AL.rm ?_; refine AL.oq (calloR (rend_c 1 (o2 (nR rest c)) (o2_ok hR).ok) [0] ?_); rintro y os' ⟨rfl, rfl⟩; refine AL.noR ?_; refine AL.r qb ?_; refine AL.rm ?_; refine AL.fk (d := 85) rfl (fun h85 => ?_) (fun h85 => ?_)
  ·refine AL.n ?_; (iterate 3 refine AL.rf ?_); refine AL.r qt ?_; refine AL.nil (AW.cond_t rfl (AW.g (AL.r (qB pl_28 ze_28) ?_))); refine AL.oq (oS sz_28 ?_); refine AL.no ?_; (iterate 2 refine AL.ra ?_); refine AL.nil (AW.ret ?_); refine r3 ag_28 ?_; rw [openK_f (by rw [hkk.1]; simp_all)]; rfl
  refine AL.n ?_; refine AL.ro (qN ag_28) ?_; refine AL.on rfl rfl rfl (AOpB.op (op_call (tright_c ⟨nk (nR rest c), nfr (nR rest c), 0, z6, [], [], []⟩) rfl (by kernel_rfl) rfl (none) ?_)); rintro r rfl; refine AL.no ?_; refine AL.ro qu ?_; refine AL.r qf ?_; refine AL.nil (AW.cd rfl (fun h89 => ?_) (fun h89 => ?_))
  ·refine AW.g (AL.r (qB pl_28 ze_28) ?_); refine AL.oq (oS sz_28 ?_); refine AL.no ?_; (iterate 2 refine AL.ra ?_); refine AL.nil (AW.ret ?_); refine r3 ag_28 ?_; rw [openK_f (by rw [hkk.1]; simp_all)]; rfl
  refine AW.skip (AW.g (AL.r (qN ag_28) ?_)); refine AL.rm ?_; refine AL.oq (oS sz_28 ?_); refine AL.no ?_; (iterate 2 refine AL.ra ?_); refine AL.nil (AW.ret ?_); refine r3 ag_28 ?_
  have hkt : okNt (nR rest c) = true := (by rw [hkk.1]; simp_all)
  rw [openK_t hkt (hkk.2 hkt)]; rfl
theorem open_ok : AC Try.prog 8 [.sc (tabV t), .sl (byA l)] (fun r => r = .s (.tu [(openK (nR rest c) (c.toNat : Int)).1.av, AI (openK (nR rest c) (c.toNat : Int)).2.1, AI (openK (nR rest c) (c.toNat : Int)).2.2])) := by
  by_cases h1 : nk (nR rest c) = 1
  · exact open_1 t l c rest hrl hok hg h1
  by_cases h2 : nk (nR rest c) = 2
  · exact open_2 t l c rest hrl hok hg h2
  by_cases h3 : nk (nR rest c) = 3
  · exact open_3 t l c rest hrl hok hg h3
  by_cases h4 : nk (nR rest c) = 4
  · exact open_4 t l c rest hrl hok hg h4
  exact open_o t l c rest hrl hok hg h1 h2 h3 h4
end
theorem open_torn (t : Nat → Nat) (l inner : List UInt8) (e z : Int) (hn : ¬ (z = 0 ∧ e = (l.length : Int))) (hg : AC Try.prog 23 [.sl (byA l), .sc (.int .i64 0), .sc (tabV t)] (fun r => r = .s (.tu [.sl (byA inner), .sc (.int .i64 e), .sc (.int .i64 z)]))) : AC Try.prog 8 [.sc (tabV t), .sl (byA l)] (fun r => r = .s (.tu [zN.av, AI 0, AI 8])) := by
  refine AC.of' 91 3 Try.func8 rfl ?_; change AW _ _ _ _ [TK.mk 0 .off, TK.mk 0 .off, TK.mk 0 .off]; refine AW.g (AL.oq (AOpB.op (op_tabbox 0 rfl rfl rfl ?_))); refine AL.n ?_; refine AL.oq (AOpB.op (oA 1 ze_28 ?_)); refine AL.n ?_; (iterate 2 refine AL.ra ?_); refine AL.nil (AW.g (AL.rm ?_)); refine AL.r (rd_tab0 rfl ag_33 rfl rfl) ?_; refine AL.cl (hg) ?_; refine AL.n ?_; refine AL.rm ?_; refine AL.r qe ?_; refine AL.r qe ?_; refine AL.r qe ?_; (iterate 3 refine AL.ra ?_); refine AL.nil (AW.seq (AW.g (AL.rm ?_))); refine AL.r qb ?_; refine AL.rm ?_; refine AL.fk (d := 22) rfl (fun h22 => ?_) (fun h22 => ?_)
  ·refine AL.n ?_; (iterate 4 refine AL.rf ?_); refine AL.r qt ?_; refine AL.nil (AW.cond_t rfl (AW.g (AL.r (qB pl_28 ze_28) ?_))); refine AL.oq (oS sz_28 ?_); refine AL.n ?_; (iterate 2 refine AL.ra ?_); refine AL.nil (AW.ret ?_); refine r3 ag_28 ?_; rfl
  refine AL.n ?_; refine AL.ro (rd_move rfl rfl) ?_; refine AL.ro (rd_move rfl rfl) ?_; refine AL.ro (lN el_35) ?_; refine AL.ro qb ?_; refine AL.r qf ?_; refine AL.nil (AW.cd rfl (fun h27 => ?_) (fun h27 => ?_))
  ·refine AW.g (AL.r (qB pl_28 ze_28) ?_); refine AL.oq (oS sz_28 ?_); refine AL.n ?_; (iterate 2 refine AL.ra ?_); refine AL.nil (AW.ret ?_); refine r3 ag_28 ?_; rfl
  (exfalso; first | exact hn ⟨by assumption, by assumption⟩ | omega | (simp_all [byA_len]))
theorem open_nil (t : Nat → Nat) (l : List UInt8) (hg : AC Try.prog 23 [.sl (byA l), .sc (.int .i64 0), .sc (tabV t)] (fun r => r = .s (.tu [.sl (byA []), .sc (.int .i64 (l.length : Int)), .sc (.int .i64 0)]))) : AC Try.prog 8 [.sc (tabV t), .sl (byA l)] (fun r => r = .s (.tu [zN.av, AI 0, AI 5])) := by
  refine AC.of' 91 3 Try.func8 rfl ?_; change AW _ _ _ _ [TK.mk 0 .off, TK.mk 0 .off, TK.mk 0 .off]; refine AW.g (AL.oq (AOpB.op (op_tabbox 0 rfl rfl rfl ?_))); refine AL.n ?_; refine AL.oq (AOpB.op (oA 1 ze_28 ?_)); refine AL.n ?_; (iterate 2 refine AL.ra ?_); refine AL.nil (AW.g (AL.rm ?_)); refine AL.r (rd_tab0 rfl ag_33 rfl rfl) ?_; refine AL.cl (hg) ?_; refine AL.n ?_; refine AL.rm ?_; refine AL.r qe ?_; refine AL.r qe ?_; refine AL.r qe ?_; (iterate 3 refine AL.ra ?_); refine AL.nil (AW.seq (AW.g (AL.rm ?_))); refine AL.r qb ?_; refine AL.rm ?_; refine AL.fk (d := 22) rfl (fun h22 => ?_) (fun h22 => ?_)
  ·(exfalso; simp_all)
  refine AL.n ?_; refine AL.ro (rd_move rfl rfl) ?_; refine AL.ro (rd_move rfl rfl) ?_; refine AL.ro (lN el_35) ?_; refine AL.ro qb ?_; refine AL.r qf ?_; refine AL.nil (AW.cd rfl (fun h27 => ?_) (fun h27 => ?_))
  ·(exfalso; simp_all [byA_len])
  refine AW.skip (AW.seq (AW.g (AL.rm ?_))); refine AL.r (lN el_35) ?_; refine AL.r qb ?_; refine AL.rm ?_; refine AL.fk (d := 32) rfl (fun h32 => ?_) (fun h32 => ?_)
  ·refine AL.n ?_; (iterate 6 refine AL.rf ?_); refine AL.r qt ?_; refine AL.nil (AW.cond_t rfl (AW.g (AL.r (qB pl_28 ze_28) ?_))); refine AL.oq (oS sz_28 ?_); refine AL.n ?_; (iterate 2 refine AL.ra ?_); refine AL.nil (AW.ret ?_); refine r3 ag_28 ?_; rfl
  (exfalso; simp_all [byA])
theorem open_form (t : Nat → Nat) (l : List UInt8) (c : UInt8) (rest : List UInt8) (hok : okF (c.toNat : Int) = false) (hg : AC Try.prog 23 [.sl (byA l), .sc (.int .i64 0), .sc (tabV t)] (fun r => r = .s (.tu [.sl (byA (c :: rest)), .sc (.int .i64 (l.length : Int)), .sc (.int .i64 0)]))) : AC Try.prog 8 [.sc (tabV t), .sl (byA l)] (fun r => r = .s (.tu [zN.av, AI 0, AI 5])) := by
  have hc : c.toNat < 256 := UInt8.toNat_lt c
  refine AC.of' 91 3 Try.func8 rfl ?_; change AW _ _ _ _ [TK.mk 0 .off, TK.mk 0 .off, TK.mk 0 .off]; refine AW.g (AL.oq (AOpB.op (op_tabbox 0 rfl rfl rfl ?_))); refine AL.n ?_; refine AL.oq (AOpB.op (oA 1 ze_28 ?_)); refine AL.n ?_; (iterate 2 refine AL.ra ?_); refine AL.nil (AW.g (AL.rm ?_)); refine AL.r (rd_tab0 rfl ag_33 rfl rfl) ?_; refine AL.cl (hg) ?_; refine AL.n ?_; refine AL.rm ?_; refine AL.r qe ?_; refine AL.r qe ?_; refine AL.r qe ?_; (iterate 3 refine AL.ra ?_); refine AL.nil (AW.seq (AW.g (AL.rm ?_))); refine AL.r qb ?_; refine AL.rm ?_; refine AL.fk (d := 22) rfl (fun h22 => ?_) (fun h22 => ?_)
  ·(exfalso; simp_all)
  refine AL.n ?_; refine AL.ro (rd_move rfl rfl) ?_; refine AL.ro (rd_move rfl rfl) ?_; refine AL.ro (lN el_35) ?_; refine AL.ro qb ?_; refine AL.r qf ?_; refine AL.nil (AW.cd rfl (fun h27 => ?_) (fun h27 => ?_))
  ·(exfalso; simp_all [byA_len])
  refine AW.skip (AW.seq (AW.g (AL.rm ?_))); refine AL.r (lN el_35) ?_; refine AL.r qb ?_; refine AL.rm ?_; refine AL.fk (d := 32) rfl (fun h32 => ?_) (fun h32 => ?_)
  ·(exfalso; simp_all [byA]; (try omega))
  refine AL.n ?_; refine AL.ro (rd_move rfl rfl) ?_; refine AL.ro (rd_iaddr_sl rfl el_35 rfl rfl (n := 0) rfl rfl rfl) ?_; refine AL.ro (rd_load_ep rfl ag_5 rfl rfl) ?_; refine AL.ro (rd_conv_int rfl iss_5 ik_3 rfl (IntWalk.i64_in _ (by omega))) ?_; refine AL.on rfl rfl rfl (AOpB.op (op_call (cright_f (c.toNat : Int) hok) rfl (by kernel_rfl) rfl (none) ?_)); rintro r rfl; refine AL.n ?_; refine AL.ro qu ?_; refine AL.r qf ?_; refine AL.nil (AW.cond_t rfl (AW.g (AL.r (qB pl_28 ze_28) ?_))); refine AL.oq (oS sz_28 ?_); refine AL.n ?_; (iterate 2 refine AL.ra ?_); refine AL.nil (AW.ret ?_); refine r3 ag_28 ?_; rfl
end Go.Proofs.Ytlapcfnmmpbeeaa
