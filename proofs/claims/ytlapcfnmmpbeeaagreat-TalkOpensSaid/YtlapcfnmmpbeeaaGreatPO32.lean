/- A part of a proof. -/
import Derived.Test.YtlapcfnmmpbeeaaGreatPO18
set_option linter.unusedSimpArgs false
set_option linter.unusedVariables false
namespace Go.Proofs.YtlapcfnmmpbeeaaGreat
set_option maxRecDepth 100000
set_option maxRecDepth 100000
open Go.RowKit
theorem ptext_n (f : Int) (hf : i64R f) (s : jAU) (hs : s.length ≤ 549755813000) : AC Tryz.prog 96 [.sl (byA []), .sc (.int .i64 f), AS s] (fun r => r = .s (.sl (byA (jC5 f s)))) := by
  have := jHK [] f (by simp) hf s hs
  rwa [List.nil_append] at this
theorem pref_n (f : Int) (hf : i64R f) (x : RefD) (h1 : i64R x.scope) (h2 : x.group.length ≤ 1000000) (h3 : x.name.length ≤ 1000000) : AC Tryz.prog 97 [.sl (byA []), .sc (.int .i64 f), x.av] (fun r => r = .s (.sl (byA (refP f x)))) := by
  have := pref_c [] f (by simp) hf x h1 h2 h3
  rwa [List.nil_append] at this
theorem jMy {f : Int} {x : FldD} {k g T : Nat} (hk : k < x.cases.length) : TK.mk g (.own T 1 (byA (pf5 f x k ++ jC5 f x.cases[k]))) = TK.mk g (.own T 1 (byA (pf5 f x (k + 1)))) := by
  rw [pf5_s hk]
set_option maxHeartbeats 1000000 in
theorem fput_c (b : List UInt8) (f : Int) (x : FldD) (hb : b.length ≤ 1000000) (hf : i64R f) (h : okF f = true) (hw : x.Wf) (hl : x.Light) : AC Tryz.prog 138 [.sl (byA b), .sc (.int .i64 f), x.av] (fun r => r = .s (.sl (byA (b ++ putF f x)))) := by
  have c1 := hl.group; have c2 := hl.name; have c3 := hl.dflt; have c4 := hl.cases
  have a1 := jFa f x.at_; have a2 := jAG f x.kind; have a3 := jBg f x.dflt; have a4 := jAG f (x.cases.length : Nat)
  have e4 := (jFF (f := f) hl 0).1
  have b3 : (pf3 f x).length ≤ 700 := by unfold pf4 at e4; rw [List.length_append] at e4; omega
  have b2 : (pf2 f x).length ≤ 700 := by unfold pf3 at b3; rw [List.length_append] at b3; omega
  have b1 : (pf1 f x).length ≤ 700 := by unfold pf2 at b2; rw [List.length_append] at b2; omega
  have hpl := putF_len (f := f) hl
  have a5 := jAG f x.worth
  have hbb := jAd b
  change AC _ _ [.sl (byA b), .sc (.int .i64 f), .ag [AI x.at_.scope, AS x.at_.group, AS x.at_.name, AI x.kind, AS x.dflt, .sl (csS x.cases), AI x.worth]] _; refine AC.of' 58 8 Tryz.func138 rfl ?_; change AW _ _ _ _ [TK.mk 0 .off, TK.mk 0 .off, TK.mk 0 .off, TK.mk 0 .off, TK.mk 0 .off, TK.mk 0 .off, TK.mk 0 .off, TK.mk 0 .off]; refine AW.g (AL.oq (AOpB.op (oB 0 ?_))); refine AL.n ?_; refine AL.ra ?_; refine AL.nil (AW.g (AL.rm ?_)); refine AL.r (qa jFA) ?_; refine AL.r (qN jBa) ?_; refine AL.cl (pref_n f hf x.at_ hw.scope (by omega) (by omega)) ?_; refine AL.n ?_; refine AL.ra ?_; refine AL.nil (AW.g ?_); (iterate 2 refine AL.rm ?_); refine AL.r (qa jDq) ?_; refine AL.r (ql ag_3) ?_; refine AL.cl (jKa (pf1 f x) f (by omega) hf x.kind hw.kind) ?_; refine AL.n ?_; refine AL.ra ?_; refine AL.nil (AW.g ?_); (iterate 2 refine AL.rm ?_); refine AL.r (qa jC3) ?_; refine AL.r (ql ag_9) ?_; refine AL.cl (jHK (pf2 f x) f (by omega) hf x.dflt (by omega)) ?_; refine AL.n ?_; refine AL.ra ?_; refine AL.nil (AW.g ?_); (iterate 2 refine AL.rm ?_); refine AL.r (qa jBJ) ?_
  refine AL.r (ql jDY) ?_; refine AL.r (lN jCz) ?_; refine AL.oq (AOpB.op (jAb (pnum_o (pf3 f x) f (x.cases.length : Nat) (by omega) hf ⟨by omega, by omega⟩ h) rfl (by kernel_rfl) rfl (some 2) ?_)); rintro r rfl; refine ⟨_, rfl, ?_⟩; refine AL.n ?_; refine AL.ra ?_; refine AL.nil (AW.seq (AW.g (AL.r (qa jBJ) ?_))); refine AL.r (ql jDY) ?_; refine AL.r (lN jCz) ?_; refine AL.rm ?_; refine AL.nil (AW.block (AW.loopM (ι := Nat × Nat) [9, 35, 36, 37, 38, 39, 40, 41, 42, 43] (fun ⟨k, gL⟩ => [(34, AI (k : Int)), (7, .ow 2 gL)]) [3] (fun ⟨k, gL⟩ => [(2, ⟨gL, .own 5 1 (byA (pf5 f x k))⟩)]) (fun ⟨k, gL⟩ => k ≤ x.cases.length) (fun ⟨k, gL⟩ => x.cases.length - k) (0, 1) (Nat.zero_le _) wk (by simp only [anys, upds, offs, List.set_cons_zero, List.set_cons_succ]; repeat (first | exact Sk.nil _ | refine Sk.same _ ?_ | refine Sk.scr _ (by decide) ?_ | refine Sk.eq _ (by rw [pf5_0]; rfl) ?_)) ?_))
  rintro ⟨k, gL⟩ gs hJ; refine AW.nm ?_; refine AW.g (AL.r qb ?_); refine AL.nil (AW.seq (AW.cd rfl (fun h35 => ?_) (fun h35 => ?_)))
  ·refine AW.skip (AW.seq (AW.block (AW.g (AL.r (jAc rfl jCz rfl rfl rfl (jAy (by omega)) rfl) ?_)))); refine AL.r (jAl rfl ag_9 rfl rfl) ?_; refine AL.ra ?_; refine AL.nil (AW.region ?_)
   have l3 := jBg f (x.cases[k]'(by omega)); have l5 := hl.case _ (List.getElem_mem (show k < x.cases.length by omega)); have l4 := (jFF (f := f) hl k).2
   (iterate 3 refine AL.rm ?_); refine AL.cl (ptext_n f hf (x.cases[k]'(by omega)) (by omega)) ?_; refine AL.n ?_; refine AL.oq (jAz rfl jBC rfl rfl (jBQ rfl) (by simp only [jAd]; omega) (by simp only [jAd]; omega) ?_); refine AL.n ?_; refine AL.ra ?_; refine AL.nil ?_; change AW _ _ _ _ _; refine AW.region ?_; refine AL.r qA ?_; refine AL.rm ?_; refine AL.nil ?_; refine ⟨⟨k + 1, gL + 1⟩, ?_, by first | omega | (simp only []; omega), ?_, ?_⟩
   ·show k + 1 ≤ x.cases.length; omega
   ·exact wk
   simp only [anys, upds, offs, List.set_cons_zero, List.set_cons_succ]; repeat (first | exact Sk.nil _ | refine Sk.same _ ?_ | refine Sk.scr _ (by decide) ?_ | refine Sk.eq _ (by first | rfl | exact jMy (by omega)) ?_)
  refine AW.exit ?_; change AW _ _ _ _ _; refine AW.g ?_; obtain rfl : k = x.cases.length := (by omega)
  have l4 := (jFF (f := f) hl x.cases.length).2
  refine AL.settle 7 rfl rfl (by first | rfl | exact jBe _ _ _ _) ?_; refine AL.no ?_; (iterate 2 refine AL.rm ?_); refine AL.r (qa jCX) ?_; refine AL.r (ql ag_2) ?_; refine AL.cl (jKa (pf5 f x x.cases.length) f (by omega) hf x.worth hw.worth) ?_; refine AL.n ?_; refine AL.ra ?_; refine AL.nil (AW.g (AL.rm ?_)); refine AL.r (lN jAC) ?_; refine AL.rm ?_; refine AL.r (lN jAC) ?_; refine AL.r qA ?_; refine AL.oq (AOpB.op (jHB 5 rfl jBC rfl rfl (n := b.length + ((pf5 f x x.cases.length).length + (putN f x.worth).length)) (by omega) (by omega) (by omega) rfl ?_)); refine AL.n ?_; refine AL.ra ?_; refine AL.nil (AW.g ?_); (iterate 2 refine AL.rm ?_); refine AL.oq (jAz rfl jBC rfl rfl (jBQ rfl) (by first | omega | (simp; omega) | simp) (by first | omega | (simp; omega) | simp) ?_); refine AL.n ?_; refine AL.ra ?_; refine AL.nil (AW.g ?_); (iterate 2 refine AL.rm ?_); refine AL.oq (jAz rfl jBC rfl rfl (jBQ rfl) (by simp only [jAd, List.nil_append, List.length_append]; omega) (by simp only [jAd, List.nil_append, List.length_append]; omega) ?_); refine AL.n ?_; refine AL.ra ?_; refine AL.nil (AW.ret (res1 rfl (ResV.tmp rfl) (by first | rfl | exact jGq rfl) ?_)); rw [List.nil_append, jA9]; rfl
section
variable (f : Int) (hf : i64R f) (h : okF f = false)
include hf h
end
theorem jGS {g : Nat} {rs : List jAU} {t : jAU} : TK.mk g (owM true 9 1 (csS rs ++ [[AS t]])) = TK.mk g (owM true 9 1 (csS (rs ++ [t]))) := by
  unfold csS; rw [List.map_append]; rfl
section
variable (g : Nat) (r : RdrD)
set_option maxHeartbeats 1000000 in
theorem fget_c (h : r.Ok) : ACo Tryz.prog 147 [.bx 0 g 0] (RdrT g r) (fun y os' => y = (getF r).1.av ∧ os' = RdrT g (getF r).2) := by
  obtain ⟨hc1, hc2⟩ := jE2 (u3 r) (most := 6) (by omega)
  have hqn : ((un r : Nat) : Int) = (jAJ (u3 r) 6).1 := Int.toNat_of_nonneg hc1
  refine ACo.of' (st0 := [⟨g, .box 138 [.sl (byA r.b), .sc (.int .i64 r.f), .sc (.int .i64 r.at_), .sc (.bool r.bad)]⟩, TK.mk 0 .off, TK.mk 0 .off, TK.mk 0 .off, TK.mk 0 .off]) 38 4 Tryz.func147 rfl 1 ?_; refine AW.g (AL.oq (AOpB.op (oA 1 jFg ?_))); refine AL.no ?_; refine AL.nil (AW.g (AL.oq (AOpB.op (oA 2 jFg ?_)))); refine AL.no ?_; refine AL.nil (AW.g (AL.rm ?_)); refine AL.oq (jAi (jJU g r h) [0] ?_); rintro y os' ⟨rfl, rfl⟩; refine AL.noR ?_; refine AL.r (qa jFA) ?_; refine AL.oq (oS jBw ?_); refine AL.no ?_; refine AL.nil (AW.g (AL.rm ?_)); refine AL.oq (jAi (jCB g (u1 r) (u1_ok h).ok) [0] ?_); rintro y os' ⟨rfl, rfl⟩; refine AL.noR ?_; refine AL.r (qa jDq) ?_; refine AL.oq (oS sz_3 ?_); refine AL.no ?_; refine AL.nil (AW.g (AL.rm ?_)); refine AL.oq (jAi (jCY g (u2 r) (u2_ok h).ok 40) [0] ?_); rintro y os' ⟨rfl, rfl⟩; refine AL.noR ?_; refine AL.r (qa jC3) ?_; refine AL.oq (oS sz_9 ?_); refine AL.no ?_; refine AL.nil (AW.seq (AW.g (AL.rm ?_))); refine AL.oq (jAi (jEZ g (u3 r) (u3_ok h).ok 6) [0] ?_); rintro y os' ⟨rfl, rfl⟩; refine AL.noR ?_; refine AL.nilbx 2 5 4 9 1 rfl rfl rfl (by decide) ?_; refine AL.no ?_; refine AL.rm ?_; refine AL.nil (AW.block (AW.loopM (ι := Nat × Nat) [16, 17, 18, 19, 20, 21, 22, 23, 24] (fun ⟨j, gL⟩ => [(15, AI (j : Int))]) [3] (fun ⟨j, gL⟩ => [(0, ⟨g, .box 138 [.sl (byA (jCC j (u4 r)).2.b), .sc (.int .i64 (jCC j (u4 r)).2.f), .sc (.int .i64 (jCC j (u4 r)).2.at_), .sc (.bool (jCC j (u4 r)).2.bad)]⟩), (4, ⟨gL, owM true 9 1 (csS (jCC j (u4 r)).1)⟩), (2, ⟨1, .box 39 [AI (jCb r).1.scope, AS (jCb r).1.group, AS (jCb r).1.name, AI (numP (u1 r)).1, AS (jAH (u2 r) 40).1, .ow 4 gL, AI 0]⟩)]) (fun ⟨j, gL⟩ => j ≤ un r) (fun ⟨j, gL⟩ => un r - j) (0, 1) (Nat.zero_le _) wk (by simp only [anys, upds, offs, List.set_cons_zero, List.set_cons_succ]; repeat (first | exact Sk.nil _ | refine Sk.same _ ?_ | refine Sk.scr _ (by decide) ?_ | refine Sk.eq _ (by rfl) ?_)) ?_))
  rintro ⟨j, gL⟩ gs hJ; refine AW.nm ?_; refine AW.g (AL.r qb ?_); refine AL.nil (AW.seq (AW.cd rfl (fun h16 => ?_) (fun h16 => ?_)))
  ·refine AW.skip (AW.seq (AW.block (AW.drawA (by kernel_rfl) ?_)))
   have hto := jGU (u4_ok h).ok j
   refine ADA.r 0 rfl (ARdP.a (jAV rfl jBJ rfl rfl ⟨_, _, rfl⟩)) rfl ?_; refine ADA.r 2 rfl (ARdP.a (jAr rfl rfl)) rfl ?_; refine ADA.b ?_; refine ADB.all (is := [1, 3]) (by kernel_rfl) (by simp) ?_; intro i hi; simp only [List.mem_cons, List.not_mem_nil, or_false] at hi
   rcases hi with rfl | rfl
   ·refine ⟨_, rfl, rfl, AOpB.op (ARd.opB (ql jDY) ?_)⟩; refine ADB.n ?_; refine ADB.mv 3 rfl (jAi (jCY g (jCC j (u4 r)).2 hto.1.ok 12) [0] ?_); rintro y os' ⟨rfl, rfl⟩; refine ADB.noR ?_; refine ADB.mv 4 rfl (AOpB.op (jCa rfl jGZ ze_9 rfl rfl ?_)); refine ADB.n ?_; refine ADB.mv 5 rfl (jBy rfl jGZ rfl rfl (jBQ rfl) (by have := hto.2; simp only [jAQ, List.length_cons, List.length_nil]; omega) (by have := hto.2; simp only [jAQ, List.length_cons, List.length_nil]; omega) ?_); refine ADB.n ?_; refine ADB.r 6 rfl (jAV rfl jBJ rfl rfl ⟨_, _, rfl⟩) rfl ?_; refine ADB.mv 7 rfl (jCZ rfl rfl rfl rfl rfl sz_37 ?_); refine ADB.n ?_; refine ADB.done (by kernel_rfl) ?_; change AW _ _ _ _ _; refine AW.region ?_; refine AL.r qA ?_; refine AL.rm ?_; refine AL.nil ?_; refine ⟨⟨j + 1, gL + 1⟩, ?_, by first | omega | (simp only []; omega), ?_, ?_⟩
    ·show j + 1 ≤ un r; omega
    ·exact wk
    simp only [anys, upds, offs, List.set_cons_zero, List.set_cons_succ]; repeat (first | exact Sk.nil _ | refine Sk.same _ ?_ | refine Sk.scr _ (by decide) ?_ | refine Sk.eq _ (by first | rfl | exact jGS) ?_)
   refine ⟨_, rfl, rfl, jAi (jCY g (jCC j (u4 r)).2 hto.1.ok 12) [0] ?_⟩; rintro y os' ⟨rfl, rfl⟩; refine ADB.noR ?_; refine ADB.all (is := [1, 4]) (by kernel_rfl) (by simp) ?_; intro i hi; simp only [List.mem_cons, List.not_mem_nil, or_false] at hi
   rcases hi with rfl | rfl
   ·refine ⟨_, rfl, rfl, AOpB.op (ARd.opB (ql jDY) ?_)⟩; refine ADB.n ?_; refine ADB.mv 4 rfl (AOpB.op (jCa rfl jGZ ze_9 rfl rfl ?_)); refine ADB.n ?_; refine ADB.mv 5 rfl (jBy rfl jGZ rfl rfl (jBQ rfl) (by have := hto.2; simp only [jAQ, List.length_cons, List.length_nil]; omega) (by have := hto.2; simp only [jAQ, List.length_cons, List.length_nil]; omega) ?_); refine ADB.n ?_; refine ADB.r 6 rfl (jAV rfl jBJ rfl rfl ⟨_, _, rfl⟩) rfl ?_; refine ADB.mv 7 rfl (jCZ rfl rfl rfl rfl rfl sz_37 ?_); refine ADB.n ?_; refine ADB.done (by kernel_rfl) ?_; change AW _ _ _ _ _; refine AW.region ?_; refine AL.r qA ?_; refine AL.rm ?_; refine AL.nil ?_; refine ⟨⟨j + 1, gL + 1⟩, ?_, by first | omega | (simp only []; omega), ?_, ?_⟩
    ·show j + 1 ≤ un r; omega
    ·exact wk
    simp only [anys, upds, offs, List.set_cons_zero, List.set_cons_succ]; repeat (first | exact Sk.nil _ | refine Sk.same _ ?_ | refine Sk.scr _ (by decide) ?_ | refine Sk.eq _ (by first | rfl | exact jGS) ?_)
   refine ⟨_, rfl, rfl, AOpB.op (jCa rfl jGZ ze_9 rfl rfl ?_)⟩; refine ADB.n ?_; refine ADB.mv 1 rfl (AOpB.op (ARd.opB (ql jDY) ?_)); refine ADB.n ?_; refine ADB.mv 5 rfl (jBy rfl jGZ rfl rfl (jBQ rfl) (by have := hto.2; simp only [jAQ, List.length_cons, List.length_nil]; omega) (by have := hto.2; simp only [jAQ, List.length_cons, List.length_nil]; omega) ?_); refine ADB.n ?_; refine ADB.r 6 rfl (jAV rfl jBJ rfl rfl ⟨_, _, rfl⟩) rfl ?_; refine ADB.mv 7 rfl (jCZ rfl rfl rfl rfl rfl sz_37 ?_); refine ADB.n ?_; refine ADB.done (by kernel_rfl) ?_; change AW _ _ _ _ _; refine AW.region ?_; refine AL.r qA ?_; refine AL.rm ?_; refine AL.nil ?_; refine ⟨⟨j + 1, gL + 1⟩, ?_, by first | omega | (simp only []; omega), ?_, ?_⟩
   ·show j + 1 ≤ un r; omega
   ·exact wk
   simp only [anys, upds, offs, List.set_cons_zero, List.set_cons_succ]; repeat (first | exact Sk.nil _ | refine Sk.same _ ?_ | refine Sk.scr _ (by decide) ?_ | refine Sk.eq _ (by first | rfl | exact jGS) ?_)
  refine AW.exit ?_; change AW _ _ _ _ _; refine AW.g ?_; obtain rfl : j = un r := (by omega); refine AL.rm ?_; refine AL.oq (jAi (jCB g (u5 r) (u5_ok h).ok) [0] ?_); rintro y os' ⟨rfl, rfl⟩; refine AL.noR ?_; refine AL.r (qa jCX) ?_; refine AL.oq (oS sz_2 ?_); refine AL.no ?_; refine AL.nil (AW.seq (AW.g (AL.settlebx 2 5 rfl rfl rfl (by first | rfl | exact jBe _ _ _ _) ?_))); refine AL.no ?_; refine AL.rm ?_; refine AL.oq (jAi (jDB g (u6 r)) [0] ?_); rintro y os' ⟨rfl, rfl⟩; refine AL.noR ?_; refine AL.rm ?_; refine AL.fk (d := 30) rfl (fun h30 => ?_) (fun h30 => ?_)
  ·refine AL.n ?_; (iterate 3 refine AL.rf ?_); refine AL.r qt ?_; refine AL.nil (AW.cond_t rfl (AW.g (AL.rm ?_))); refine AL.oq (jAi (jBX g (u6 r)) [0] ?_); rintro y os' ⟨rfl, rfl⟩; refine AL.noR ?_; refine AL.nil (AW.g (AL.r (qB jG6 jFg) ?_)); refine AL.oq (oS jDA ?_); refine AL.no ?_; refine AL.nil (AW.ret ?_)
   repeat with_reducible first | refine jAp ?_ | refine jAe ?_
   with_reducible first | refine jAw ?_ | refine jAf ?_
   refine jAY rfl (ResV.cells rfl rfl jCq (Nat.le_of_ble_eq_true rfl) rfl) rfl ?_; rw [getF, if_neg (by simp_all)]; exact ⟨rfl, rfl⟩
  refine AL.n ?_; refine AL.ro (qN jCq) ?_; refine AL.on rfl rfl rfl (AOpB.op (jAb (jJu (rawF r)) rfl (by kernel_rfl) rfl (none) ?_)); rintro r rfl; refine AL.no ?_; refine AL.ro qu ?_; refine AL.r qf ?_; refine AL.nil (AW.cd rfl (fun h34 => ?_) (fun h34 => ?_))
  ·refine AW.g (AL.rm ?_); refine AL.oq (jAi (jBX g (u6 r)) [0] ?_); rintro y os' ⟨rfl, rfl⟩; refine AL.noR ?_; refine AL.nil (AW.g (AL.r (qB jG6 jFg) ?_)); refine AL.oq (oS jDA ?_); refine AL.no ?_; refine AL.nil (AW.ret ?_)
   repeat with_reducible first | refine jAp ?_ | refine jAe ?_
   with_reducible first | refine jAw ?_ | refine jAf ?_
   refine jAY rfl (ResV.cells rfl rfl jCq (Nat.le_of_ble_eq_true rfl) rfl) rfl ?_; rw [getF, if_neg (by simp_all)]; exact ⟨rfl, rfl⟩
  refine AW.skip (AW.g (AL.r (qN jCq) ?_)); refine AL.oq (oS jDA ?_); refine AL.no ?_; refine AL.nil (AW.ret ?_)
  repeat with_reducible first | refine jAp ?_ | refine jAe ?_
  with_reducible first | refine jAw ?_ | refine jAf ?_
  refine jAY rfl (ResV.cells rfl rfl jCq (Nat.le_of_ble_eq_true rfl) rfl) rfl ?_; rw [getF, if_pos (by simp_all)]; exact ⟨rfl, rfl⟩
end
end Go.Proofs.YtlapcfnmmpbeeaaGreat
