/- A part of a proof. -/
import Derived.Test.YtlapcfnmmpbeeaaPT28
import Derived.Test.YtlapcfnmmpbeeaaPT29
set_option linter.unusedSimpArgs false
set_option linter.unusedVariables false
namespace Go.Proofs.Ytlapcfnmmpbeeaa
open Go.RowKit
def rightR (o : OpD) : Bool := tagB o.id && (decide (o.schema = ⟨0, 0⟩) || tagB o.schema) && decide (1 ≤ o.time) && decide (o.time ≤ 1099511627776) && nameB o.cart && dropsB o &&
  (if o.kind = 5 then o.item.isEmpty && plainB o else if o.kind = 1 then nameB o.item && plainB o && o.drops.isEmpty else if o.kind = 2 then nameB o.item && plainB o
   else placeB o.at_ && (!decide (o.at_.scope = 1) || nameB o.item) && (!decide (o.at_.scope = 0) || o.item.isEmpty) &&
     (if o.kind = 3 then !o.has && o.text.isEmpty && o.drops.isEmpty && decide (-1048577 < o.delta) && decide (o.delta < 1048577) else decide (o.kind = 4) && decide (o.delta = 0) && (if o.has then decide (o.text.length < 41) else o.text.isEmpty)))
theorem nameB_nil : nameB [] = false := by simp [nameB]
theorem emp_iff {α : Type} (l : List α) : l.isEmpty = true ↔ l = [] := by cases l <;> simp
theorem placeB_s {r : RefD} (h : placeB r = true) : r.scope = 0 ∨ r.scope = 1 := by
  unfold placeB at h
  simp only [Bool.and_eq_true, Bool.or_eq_true, beq_iff_eq] at h
  exact h.1.1
theorem right_same (o : OpD) : rightR o = rightO o := by
  rw [Bool.eq_iff_iff]
  unfold rightR rightO sO partsO itO plO plainB
  by_cases h5 : o.kind = 5
  · simp only [h5, if_true, Int.reduceEq, if_false, Bool.and_eq_true, Bool.or_eq_true, decide_eq_true_eq, emp_iff, opD_iff, Bool.not_eq_true', decide_false, Bool.or_self, Bool.not_false, Bool.true_or, Bool.false_and, true_and, and_true]
    grind
  by_cases h1 : o.kind = 1
  · simp only [h1, if_true, Int.reduceEq, if_false, Bool.and_eq_true, Bool.or_eq_true, decide_eq_true_eq, emp_iff, opD_iff, Bool.not_eq_true', decide_false, decide_true, Bool.or_self, Bool.not_false, Bool.not_true, Bool.true_or, Bool.false_or, Bool.false_and, true_and, and_true]
    grind
  by_cases h2 : o.kind = 2
  · simp only [h2, if_true, Int.reduceEq, if_false, Bool.and_eq_true, Bool.or_eq_true, decide_eq_true_eq, emp_iff, opD_iff, Bool.not_eq_true', decide_false, decide_true, Bool.or_self, Bool.not_false, Bool.not_true, Bool.true_or, Bool.false_or, Bool.false_and, true_and, and_true]
    grind
  by_cases h3 : o.kind = 3
  · simp only [h3, if_true, Int.reduceEq, if_false, Bool.and_eq_true, Bool.or_eq_true, decide_eq_true_eq, emp_iff, opD_iff, Bool.not_eq_true', decide_false, decide_true, Bool.or_self, Bool.not_false, Bool.not_true, Bool.true_or, Bool.or_true, Bool.false_or, Bool.false_and, Bool.true_and, true_and, and_true, decide_eq_false_iff_not]
    have hs := @placeB_s o.at_
    grind [nameB_nil]
  by_cases h4 : o.kind = 4
  · simp only [h4, if_true, Int.reduceEq, if_false, Bool.and_eq_true, Bool.or_eq_true, decide_eq_true_eq, emp_iff, opD_iff, Bool.not_eq_true', decide_false, decide_true, Bool.or_self, Bool.not_false, Bool.not_true, Bool.true_or, Bool.or_true, Bool.false_or, Bool.false_and, Bool.true_and, true_and, and_true, decide_eq_false_iff_not]
    have hs := @placeB_s o.at_
    grind [nameB_nil]
  simp only [h5, h1, h2, h3, h4, if_false, Bool.false_and, Bool.and_false, decide_false, Bool.false_eq_true]
set_option maxRecDepth 100000
def tagsP : Nat → RdrD → List TagD × RdrD
  | 0, r => ([], r)
  | n + 1, r => ((tagsP n r).1 ++ [(rtagP (tagsP n r).2).1], (rtagP (tagsP n r).2).2)
def q1 (r : RdrD) : RdrD := (rtagP r).2
def q2 (r : RdrD) : RdrD := (rtagP (q1 r)).2
def q3 (r : RdrD) : RdrD := (numP (q2 r)).2
def q4 (r : RdrD) : RdrD := (rtextP (q3 r) 12).2
def q5 (r : RdrD) : RdrD := (numP (q4 r)).2
def q6 (r : RdrD) : RdrD := (rtextP (q5 r) 12).2
def q7 (r : RdrD) : RdrD := (rrefP (q6 r)).2
def q8 (r : RdrD) : RdrD := (numP (q7 r)).2
def q9 (r : RdrD) : RdrD := (rflagP (q8 r)).2
def q10 (r : RdrD) : RdrD := (rtextP (q9 r) 40).2
def q11 (r : RdrD) : RdrD := (countP (q10 r) 60).2
def qn (r : RdrD) : Nat := (countP (q10 r) 60).1.toNat
def q12 (r : RdrD) : RdrD := (tagsP (qn r) (q11 r)).2
def rawO (r : RdrD) : OpD := ⟨(rtagP r).1, (rtagP (q1 r)).1, (numP (q2 r)).1, (rtextP (q3 r) 12).1, (numP (q4 r)).1, (rtextP (q5 r) 12).1, (rrefP (q6 r)).1, (numP (q7 r)).1, (rflagP (q8 r)).1, (rtextP (q9 r) 40).1, (tagsP (qn r) (q11 r)).1⟩
def getO (r : RdrD) : OpD × RdrD := if badP (q12 r) then (zeroO, q12 r) else if rightO (rawO r) then (rawO r, q12 r) else (zeroO, spoilP (q12 r))
theorem tags_ok {r : RdrD} (h : r.Ok) : ∀ n, r.Of (tagsP n r).2 ∧ (tagsP n r).1.length = n
  | 0 => ⟨h.of, rfl⟩
  | n + 1 => by
    obtain ⟨a, b⟩ := tags_ok h n
    exact ⟨a.trans a.ok.tag, by rw [tagsP, List.length_append, b]; rfl⟩
section
variable {r : RdrD} (h : r.Ok)
include h
theorem q1_ok : r.Of (q1 r) := h.tag
theorem q2_ok : r.Of (q2 r) := (q1_ok h).trans (q1_ok h).ok.tag
theorem q3_ok : r.Of (q3 r) := (q2_ok h).trans (q2_ok h).ok.num
theorem q4_ok : r.Of (q4 r) := (q3_ok h).trans ((q3_ok h).ok.text 12)
theorem q5_ok : r.Of (q5 r) := (q4_ok h).trans (q4_ok h).ok.num
theorem q6_ok : r.Of (q6 r) := (q5_ok h).trans ((q5_ok h).ok.text 12)
theorem q7_ok : r.Of (q7 r) := (q6_ok h).trans (q6_ok h).ok.ref
theorem q8_ok : r.Of (q8 r) := (q7_ok h).trans (q7_ok h).ok.num
theorem q9_ok : r.Of (q9 r) := (q8_ok h).trans (q8_ok h).ok.flag
theorem q10_ok : r.Of (q10 r) := (q9_ok h).trans ((q9_ok h).ok.text 40)
theorem q11_ok : r.Of (q11 r) := (q10_ok h).trans ((q10_ok h).ok.count 60)
theorem q12_ok : r.Of (q12 r) := (q11_ok h).trans (tags_ok (q11_ok h).ok _).1
end
theorem tags_row {g : Nat} {rs : List TagD} {t : TagD} : TK.mk g (owM true 51 2 (rs.map TagD.cs ++ [[AI t.rep, AI t.n]])) = TK.mk g (owM true 51 2 ((rs ++ [t]).map TagD.cs)) := by
  rw [List.map_append]; rfl
section
variable (g : Nat) (r : RdrD)
set_option maxHeartbeats 1000000 in
theorem oget_c (h : r.Ok) : ACo Try.prog 32 [.bx 0 g 0] (RdrT g r) (fun y os' => y = (getO r).1.av ∧ os' = RdrT g (getO r).2) := by
  obtain ⟨hc1, hc2⟩ := count_bd (q10 r) (most := 60) (by omega)
  have hqn : ((qn r : Nat) : Int) = (countP (q10 r) 60).1 := Int.toNat_of_nonneg hc1
  refine ACo.of' (st0 := [⟨g, .box 101 [.sl (byA r.b), .sc (.int .i64 r.f), .sc (.int .i64 r.at_), .sc (.bool r.bad)]⟩, TK.mk 0 .off, TK.mk 0 .off, TK.mk 0 .off, TK.mk 0 .off]) 57 4 Try.func32 rfl 1 ?_; refine AW.g (AL.oq (AOpB.op (oA 1 ze_67 ?_))); refine AL.no ?_; refine AL.nil (AW.g (AL.oq (AOpB.op (oA 2 ze_67 ?_)))); refine AL.no ?_; refine AL.nil (AW.g (AL.rm ?_)); refine AL.oq (calloR (rdtag_c g r h) [0] ?_); rintro y os' ⟨rfl, rfl⟩; refine AL.noR ?_; refine AL.r (qa fo_67_0) ?_; refine AL.oq (oS sz_51 ?_); refine AL.no ?_; refine AL.nil (AW.g (AL.rm ?_)); refine AL.oq (calloR (rdtag_c g (q1 r) (q1_ok h).ok) [0] ?_); rintro y os' ⟨rfl, rfl⟩; refine AL.noR ?_; refine AL.r (qa fo_67_1) ?_; refine AL.oq (oS sz_51 ?_); refine AL.no ?_; refine AL.nil (AW.g (AL.rm ?_)); refine AL.oq (calloR (rnum_c g (q2 r) (q2_ok h).ok) [0] ?_); rintro y os' ⟨rfl, rfl⟩; refine AL.noR ?_; refine AL.r (qa fo_67_2) ?_; refine AL.oq (oS sz_2 ?_); refine AL.no ?_; refine AL.nil (AW.g (AL.rm ?_)); refine AL.oq (calloR (rtext_c g (q3 r) (q3_ok h).ok 12) [0] ?_); rintro y os' ⟨rfl, rfl⟩; refine AL.noR ?_; refine AL.r (qa fo_67_3) ?_; refine AL.oq (oS sz_9 ?_); refine AL.no ?_; refine AL.nil ?_
  refine AW.g (AL.rm ?_); refine AL.oq (calloR (rnum_c g (q4 r) (q4_ok h).ok) [0] ?_); rintro y os' ⟨rfl, rfl⟩; refine AL.noR ?_; refine AL.r (qa fo_67_4) ?_; refine AL.oq (oS sz_3 ?_); refine AL.no ?_; refine AL.nil (AW.g (AL.rm ?_)); refine AL.oq (calloR (rtext_c g (q5 r) (q5_ok h).ok 12) [0] ?_); rintro y os' ⟨rfl, rfl⟩; refine AL.noR ?_; refine AL.r (qa fo_67_5) ?_; refine AL.oq (oS sz_9 ?_); refine AL.no ?_; refine AL.nil (AW.g (AL.rm ?_)); refine AL.oq (calloR (rdref_c g (q6 r) (q6_ok h).ok) [0] ?_); rintro y os' ⟨rfl, rfl⟩; refine AL.noR ?_; refine AL.r (qa fo_67_6) ?_; refine AL.oq (oS sz_55 ?_); refine AL.no ?_; refine AL.nil (AW.g (AL.rm ?_)); refine AL.oq (calloR (rnum_c g (q7 r) (q7_ok h).ok) [0] ?_); rintro y os' ⟨rfl, rfl⟩; refine AL.noR ?_; refine AL.r (qa fo_67_7) ?_; refine AL.oq (oS sz_2 ?_); refine AL.no ?_; refine AL.nil (AW.g (AL.rm ?_)); refine AL.oq (calloR (rflag_c g (q8 r) (q8_ok h).ok) [0] ?_); rintro y os' ⟨rfl, rfl⟩; refine AL.noR ?_; refine AL.r (qa fo_67_8) ?_; refine AL.oq (oS sz_4 ?_); refine AL.no ?_; refine AL.nil (AW.g (AL.rm ?_)); refine AL.oq (calloR (rtext_c g (q9 r) (q9_ok h).ok 40) [0] ?_)
  rintro y os' ⟨rfl, rfl⟩; refine AL.noR ?_; refine AL.r (qa fo_67_9) ?_; refine AL.oq (oS sz_9 ?_); refine AL.no ?_; refine AL.nil (AW.g (AL.rm ?_)); refine AL.oq (calloR (rcount_c g (q10 r) (q10_ok h).ok 60) [0] ?_); rintro y os' ⟨rfl, rfl⟩; refine AL.noR ?_; refine AL.ra ?_; refine AL.nil (AW.seq (AW.g (AL.nilbx 2 14 4 51 2 rfl rfl rfl (by decide) ?_))); refine AL.no ?_; (iterate 2 refine AL.rm ?_); refine AL.nil (AW.block (AW.loopM (ι := Nat × Nat) [39, 40, 41, 42, 43, 44, 45, 46, 47] (fun ⟨j, gL⟩ => [(38, AI (j : Int))]) [3] (fun ⟨j, gL⟩ => [(0, ⟨g, .box 101 [.sl (byA (tagsP j (q11 r)).2.b), .sc (.int .i64 (tagsP j (q11 r)).2.f), .sc (.int .i64 (tagsP j (q11 r)).2.at_), .sc (.bool (tagsP j (q11 r)).2.bad)]⟩), (4, ⟨gL, owM true 51 2 ((tagsP j (q11 r)).1.map TagD.cs)⟩), (2, ⟨1, .box 67 [AI (rtagP r).1.rep, AI (rtagP r).1.n, AI (rtagP (q1 r)).1.rep, AI (rtagP (q1 r)).1.n, AI (numP (q2 r)).1, AS (rtextP (q3 r) 12).1, AI (numP (q4 r)).1, AS (rtextP (q5 r) 12).1, AI (rrefP (q6 r)).1.scope, AS (rrefP (q6 r)).1.group, AS (rrefP (q6 r)).1.name, AI (numP (q7 r)).1, AB (rflagP (q8 r)).1, AS (rtextP (q9 r) 40).1, .ow 4 gL]⟩)]) (fun ⟨j, gL⟩ => j ≤ qn r) (fun ⟨j, gL⟩ => qn r - j) (0, 1) (Nat.zero_le _) wk (by simp only [anys, upds, offs, List.set_cons_zero, List.set_cons_succ]; repeat (first | exact Sk.nil _ | refine Sk.same _ ?_ | refine Sk.scr _ (by decide) ?_ | refine Sk.eq _ (by rfl) ?_)) ?_))
  rintro ⟨j, gL⟩ gs hJ; refine AW.nm ?_; refine AW.g (AL.r qb ?_); refine AL.nil (AW.seq (AW.cd rfl (fun h39 => ?_) (fun h39 => ?_)))
  ·refine AW.skip (AW.seq (AW.block (AW.drawA (by kernel_rfl) ?_)))
   have hto := tags_ok (q11_ok h).ok j
   refine ADA.r 0 rfl (ARdP.a (rdP_faddr_bx rfl fo_67_10 rfl rfl ⟨_, _, rfl⟩)) rfl ?_; refine ADA.r 2 rfl (ARdP.a (rdP_move rfl rfl)) rfl ?_; refine ADA.b ?_; refine ADB.all (is := [1, 3]) (by kernel_rfl) (by simp) ?_; intro i hi; simp only [List.mem_cons, List.not_mem_nil, or_false] at hi
   rcases hi with rfl | rfl
   ·refine ⟨_, rfl, rfl, AOpB.op (ARd.opB (ql ag_24) ?_)⟩; refine ADB.n ?_; refine ADB.mv 3 rfl (calloR (rdtag_c g (tagsP j (q11 r)).2 hto.1.ok) [0] ?_); rintro y os' ⟨rfl, rfl⟩; refine ADB.noR ?_; refine ADB.mv 4 rfl (AOpB.op (bs_set rfl ap_24 ze_51 rfl rfl ?_)); refine ADB.n ?_; refine ADB.mv 5 rfl (op_appendM rfl ap_24 rfl rfl (src_s rfl) (by first | omega | (simp; omega) | simp) (by first | omega | (simp; omega) | simp) ?_); refine ADB.n ?_; refine ADB.r 6 rfl (rdP_faddr_bx rfl fo_67_10 rfl rfl ⟨_, _, rfl⟩) rfl ?_; refine ADB.mv 7 rfl (op_storo rfl rfl rfl rfl rfl sz_24 ?_); refine ADB.n ?_; refine ADB.done (by kernel_rfl) ?_; change AW _ _ _ _ _; refine AW.region ?_; refine AL.r qA ?_; refine AL.rm ?_; refine AL.nil ?_; refine ⟨⟨j + 1, gL + 1⟩, ?_, by first | omega | (simp only []; omega), ?_, ?_⟩
    ·show j + 1 ≤ qn r; omega
    ·exact wk
    simp only [anys, upds, offs, List.set_cons_zero, List.set_cons_succ]; repeat (first | exact Sk.nil _ | refine Sk.same _ ?_ | refine Sk.scr _ (by decide) ?_ | refine Sk.eq _ (by first | rfl | exact tags_row) ?_)
   refine ⟨_, rfl, rfl, calloR (rdtag_c g (tagsP j (q11 r)).2 hto.1.ok) [0] ?_⟩; rintro y os' ⟨rfl, rfl⟩; refine ADB.noR ?_; refine ADB.all (is := [1, 4]) (by kernel_rfl) (by simp) ?_; intro i hi; simp only [List.mem_cons, List.not_mem_nil, or_false] at hi
   rcases hi with rfl | rfl
   ·refine ⟨_, rfl, rfl, AOpB.op (ARd.opB (ql ag_24) ?_)⟩; refine ADB.n ?_; refine ADB.mv 4 rfl (AOpB.op (bs_set rfl ap_24 ze_51 rfl rfl ?_)); refine ADB.n ?_; refine ADB.mv 5 rfl (op_appendM rfl ap_24 rfl rfl (src_s rfl) (by first | omega | (simp; omega) | simp) (by first | omega | (simp; omega) | simp) ?_); refine ADB.n ?_; refine ADB.r 6 rfl (rdP_faddr_bx rfl fo_67_10 rfl rfl ⟨_, _, rfl⟩) rfl ?_; refine ADB.mv 7 rfl (op_storo rfl rfl rfl rfl rfl sz_24 ?_); refine ADB.n ?_; refine ADB.done (by kernel_rfl) ?_; change AW _ _ _ _ _; refine AW.region ?_; refine AL.r qA ?_; refine AL.rm ?_; refine AL.nil ?_; refine ⟨⟨j + 1, gL + 1⟩, ?_, by first | omega | (simp only []; omega), ?_, ?_⟩
    ·show j + 1 ≤ qn r; omega
    ·exact wk
    simp only [anys, upds, offs, List.set_cons_zero, List.set_cons_succ]; repeat (first | exact Sk.nil _ | refine Sk.same _ ?_ | refine Sk.scr _ (by decide) ?_ | refine Sk.eq _ (by first | rfl | exact tags_row) ?_)
   refine ⟨_, rfl, rfl, AOpB.op (bs_set rfl ap_24 ze_51 rfl rfl ?_)⟩; refine ADB.n ?_; refine ADB.mv 1 rfl (AOpB.op (ARd.opB (ql ag_24) ?_)); refine ADB.n ?_; refine ADB.mv 5 rfl (op_appendM rfl ap_24 rfl rfl (src_s rfl) (by first | omega | (simp; omega) | simp) (by first | omega | (simp; omega) | simp) ?_); refine ADB.n ?_; refine ADB.r 6 rfl (rdP_faddr_bx rfl fo_67_10 rfl rfl ⟨_, _, rfl⟩) rfl ?_; refine ADB.mv 7 rfl (op_storo rfl rfl rfl rfl rfl sz_24 ?_); refine ADB.n ?_; refine ADB.done (by kernel_rfl) ?_; change AW _ _ _ _ _; refine AW.region ?_; refine AL.r qA ?_; refine AL.rm ?_; refine AL.nil ?_; refine ⟨⟨j + 1, gL + 1⟩, ?_, by first | omega | (simp only []; omega), ?_, ?_⟩
   ·show j + 1 ≤ qn r; omega
   ·exact wk
   simp only [anys, upds, offs, List.set_cons_zero, List.set_cons_succ]; repeat (first | exact Sk.nil _ | refine Sk.same _ ?_ | refine Sk.scr _ (by decide) ?_ | refine Sk.eq _ (by first | rfl | exact tags_row) ?_)
  refine AW.exit ?_; change AW _ _ _ _ _; refine AW.seq (AW.g ?_); obtain rfl : j = qn r := (by omega); refine AL.rm ?_; refine AL.oq (calloR (rbad_c g (q12 r)) [0] ?_); rintro y os' ⟨rfl, rfl⟩; refine AL.noR ?_; refine AL.nil (AW.cd rfl (fun h49 => ?_) (fun h49 => ?_))
  ·refine AW.g (AL.r (qB pl_67 ze_67) ?_); refine AL.oq (oS sz_67 ?_); refine AL.no ?_; refine AL.nil (AW.ret ?_)
   repeat with_reducible first | refine thenA_ret ?_ | refine inBlockA_ret ?_
   with_reducible first | refine retO_ret ?_ | refine retO_normal ?_
   refine reso1R rfl (ResV.cells rfl rfl ag_67 (Nat.le_of_ble_eq_true rfl) rfl) rfl ?_; rw [getO, if_pos h49]; exact ⟨rfl, rfl⟩
  refine AW.skip (AW.seq (AW.g (AL.settlebx 2 14 rfl rfl rfl (by first | rfl | exact cont_owM _ _ _ _) ?_))); refine AL.no ?_; refine AL.r (qN ag_67) ?_; refine AL.cl (oright_g (rawO r)) ?_; refine AL.no ?_; refine AL.r qu ?_; refine AL.nil (AW.cd rfl (fun h53 => ?_) (fun h53 => ?_))
  ·refine AW.g (AL.rm ?_); refine AL.oq (calloR (rspoil_c g (q12 r)) [0] ?_); rintro y os' ⟨rfl, rfl⟩; refine AL.noR ?_; refine AL.nil (AW.g (AL.r (qB pl_67 ze_67) ?_)); refine AL.oq (oS sz_67 ?_); refine AL.no ?_; refine AL.nil (AW.ret ?_)
   repeat with_reducible first | refine thenA_ret ?_ | refine inBlockA_ret ?_
   with_reducible first | refine retO_ret ?_ | refine retO_normal ?_
   refine reso1R rfl (ResV.cells rfl rfl ag_67 (Nat.le_of_ble_eq_true rfl) rfl) rfl ?_; rw [getO, if_neg (by rw [h49]; decide), if_neg (by rw [h53]; decide)]; exact ⟨rfl, rfl⟩
  refine AW.skip (AW.g (AL.r (qN ag_67) ?_)); refine AL.oq (oS sz_67 ?_); refine AL.no ?_; refine AL.nil (AW.ret ?_)
  repeat with_reducible first | refine thenA_ret ?_ | refine inBlockA_ret ?_
  with_reducible first | refine retO_ret ?_ | refine retO_normal ?_
  refine reso1R rfl (ResV.cells rfl rfl ag_67 (Nat.le_of_ble_eq_true rfl) rfl) rfl ?_; rw [getO, if_neg (by rw [h49]; decide), if_pos h53]; exact ⟨rfl, rfl⟩
end
end Go.Proofs.Ytlapcfnmmpbeeaa
