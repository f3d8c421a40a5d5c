/- A part of a proof. -/
import Derived.Test.YtlapcfnmmpbeeaaGreatPO31
import Derived.Test.YtlapcfnmmpbeeaaGreatPO32
set_option linter.unusedSimpArgs false
set_option linter.unusedVariables false
namespace Go.Proofs.YtlapcfnmmpbeeaaGreat
set_option maxRecDepth 100000
set_option maxRecDepth 100000
open Go.RowKit
def jEb : Nat → RdrD → List TagD × RdrD
  | 0, r => ([], r)
  | n + 1, r => ((jEb n r).1 ++ [(jBo (jEb n r).2).1], (jBo (jEb n r).2).2)
def q1 (r : RdrD) : RdrD := (jBo r).2
def q2 (r : RdrD) : RdrD := (jBo (q1 r)).2
def q3 (r : RdrD) : RdrD := (numP (q2 r)).2
def q4 (r : RdrD) : RdrD := (jAH (q3 r) 12).2
def q5 (r : RdrD) : RdrD := (numP (q4 r)).2
def q6 (r : RdrD) : RdrD := (jAH (q5 r) 12).2
def q7 (r : RdrD) : RdrD := (jCb (q6 r)).2
def q8 (r : RdrD) : RdrD := (numP (q7 r)).2
def q9 (r : RdrD) : RdrD := (jCR (q8 r)).2
def q10 (r : RdrD) : RdrD := (jAH (q9 r) 40).2
def q11 (r : RdrD) : RdrD := (jAJ (q10 r) 60).2
def qn (r : RdrD) : Nat := (jAJ (q10 r) 60).1.toNat
def q12 (r : RdrD) : RdrD := (jEb (qn r) (q11 r)).2
def rawO (r : RdrD) : OpD := ⟨(jBo r).1, (jBo (q1 r)).1, (numP (q2 r)).1, (jAH (q3 r) 12).1, (numP (q4 r)).1, (jAH (q5 r) 12).1, (jCb (q6 r)).1, (numP (q7 r)).1, (jCR (q8 r)).1, (jAH (q9 r) 40).1, (jEb (qn r) (q11 r)).1⟩
def getO (r : RdrD) : OpD × RdrD := if badP (q12 r) then (jDz, q12 r) else if jBs (rawO r) then (rawO r, q12 r) else (jDz, jCt (q12 r))
theorem jJn {r : RdrD} (h : r.Ok) : ∀ n, r.Of (jEb n r).2 ∧ (jEb n r).1.length = n
  | 0 => ⟨h.of, rfl⟩
  | n + 1 => by
    obtain ⟨a, b⟩ := jJn h n
    exact ⟨a.trans a.ok.tag, by rw [jEb, List.length_append, b]; rfl⟩
section
variable {r : RdrD} (h : r.Ok)
include h
theorem q1_ok : r.Of (q1 r) := h.tag
theorem q2_ok : r.Of (q2 r) := (q1_ok h).trans (q1_ok h).ok.tag
theorem q3_ok : r.Of (q3 r) := (q2_ok h).trans (q2_ok h).ok.num
theorem q4_ok : r.Of (q4 r) := (q3_ok h).trans ((q3_ok h).ok.text 12)
theorem q5_ok : r.Of (q5 r) := (q4_ok h).trans (q4_ok h).ok.num
theorem q6_ok : r.Of (q6 r) := (q5_ok h).trans ((q5_ok h).ok.text 12)
theorem q7_ok : r.Of (q7 r) := (q6_ok h).trans (q6_ok h).ok.ref
theorem q8_ok : r.Of (q8 r) := (q7_ok h).trans (q7_ok h).ok.num
theorem q9_ok : r.Of (q9 r) := (q8_ok h).trans (q8_ok h).ok.flag
theorem jLU : r.Of (q10 r) := (q9_ok h).trans ((q9_ok h).ok.text 40)
theorem jNc : r.Of (q11 r) := (jLU h).trans ((jLU h).ok.count 60)
theorem jLg : r.Of (q12 r) := (jNc h).trans (jJn (jNc h).ok _).1
end
theorem jHz {g : Nat} {rs : List TagD} {t : TagD} : TK.mk g (owM true 34 2 (rs.map TagD.cs ++ [[AI t.rep, AI t.n]])) = TK.mk g (owM true 34 2 ((rs ++ [t]).map TagD.cs)) := by
  rw [List.map_append]; rfl
section
variable (g : Nat) (r : RdrD)
set_option maxHeartbeats 1000000 in
theorem oget_c (h : r.Ok) : ACo Tryz.prog 64 [.bx 0 g 0] (RdrT g r) (fun y os' => y = (getO r).1.av ∧ os' = RdrT g (getO r).2) := by
  obtain ⟨hc1, hc2⟩ := jE2 (q10 r) (most := 60) (by omega)
  have hqn : ((qn r : Nat) : Int) = (jAJ (q10 r) 60).1 := Int.toNat_of_nonneg hc1
  refine ACo.of' (st0 := [⟨g, .box 138 [.sl (byA r.b), .sc (.int .i64 r.f), .sc (.int .i64 r.at_), .sc (.bool r.bad)]⟩, TK.mk 0 .off, TK.mk 0 .off, TK.mk 0 .off, TK.mk 0 .off]) 57 4 Tryz.func64 rfl 1 ?_; refine AW.g (AL.oq (AOpB.op (oA 1 jDs ?_))); refine AL.no ?_; refine AL.nil (AW.g (AL.oq (AOpB.op (oA 2 jDs ?_)))); refine AL.no ?_; refine AL.nil (AW.g (AL.rm ?_)); refine AL.oq (jAi (jG1 g r h) [0] ?_); rintro y os' ⟨rfl, rfl⟩; refine AL.noR ?_; refine AL.r (qa jEt) ?_; refine AL.oq (oS jF8 ?_); refine AL.no ?_; refine AL.nil (AW.g (AL.rm ?_)); refine AL.oq (jAi (jG1 g (q1 r) (q1_ok h).ok) [0] ?_); rintro y os' ⟨rfl, rfl⟩; refine AL.noR ?_; refine AL.r (qa jEp) ?_; refine AL.oq (oS jF8 ?_); refine AL.no ?_; refine AL.nil (AW.g (AL.rm ?_)); refine AL.oq (jAi (jCB g (q2 r) (q2_ok h).ok) [0] ?_); rintro y os' ⟨rfl, rfl⟩; refine AL.noR ?_; refine AL.r (qa jDL) ?_; refine AL.oq (oS sz_2 ?_); refine AL.no ?_; refine AL.nil (AW.g (AL.rm ?_)); refine AL.oq (jAi (jCY g (q3 r) (q3_ok h).ok 12) [0] ?_); rintro y os' ⟨rfl, rfl⟩; refine AL.noR ?_; refine AL.r (qa jEE) ?_; refine AL.oq (oS sz_9 ?_); refine AL.no ?_; refine AL.nil ?_
  refine AW.g (AL.rm ?_); refine AL.oq (jAi (jCB g (q4 r) (q4_ok h).ok) [0] ?_); rintro y os' ⟨rfl, rfl⟩; refine AL.noR ?_; refine AL.r (qa jCy) ?_; refine AL.oq (oS sz_3 ?_); refine AL.no ?_; refine AL.nil (AW.g (AL.rm ?_)); refine AL.oq (jAi (jCY g (q5 r) (q5_ok h).ok 12) [0] ?_); rintro y os' ⟨rfl, rfl⟩; refine AL.noR ?_; refine AL.r (qa jBu) ?_; refine AL.oq (oS sz_9 ?_); refine AL.no ?_; refine AL.nil (AW.g (AL.rm ?_)); refine AL.oq (jAi (jJU g (q6 r) (q6_ok h).ok) [0] ?_); rintro y os' ⟨rfl, rfl⟩; refine AL.noR ?_; refine AL.r (qa jBR) ?_; refine AL.oq (oS jBw ?_); refine AL.no ?_; refine AL.nil (AW.g (AL.rm ?_)); refine AL.oq (jAi (jCB g (q7 r) (q7_ok h).ok) [0] ?_); rintro y os' ⟨rfl, rfl⟩; refine AL.noR ?_; refine AL.r (qa jDe) ?_; refine AL.oq (oS sz_2 ?_); refine AL.no ?_; refine AL.nil (AW.g (AL.rm ?_)); refine AL.oq (jAi (rflag_c g (q8 r) (q8_ok h).ok) [0] ?_); rintro y os' ⟨rfl, rfl⟩; refine AL.noR ?_; refine AL.r (qa jDN) ?_; refine AL.oq (oS sz_4 ?_); refine AL.no ?_; refine AL.nil (AW.g (AL.rm ?_)); refine AL.oq (jAi (jCY g (q9 r) (q9_ok h).ok 40) [0] ?_)
  rintro y os' ⟨rfl, rfl⟩; refine AL.noR ?_; refine AL.r (qa jDQ) ?_; refine AL.oq (oS sz_9 ?_); refine AL.no ?_; refine AL.nil (AW.g (AL.rm ?_)); refine AL.oq (jAi (jEZ g (q10 r) (jLU h).ok 60) [0] ?_); rintro y os' ⟨rfl, rfl⟩; refine AL.noR ?_; refine AL.ra ?_; refine AL.nil (AW.seq (AW.g (AL.nilbx 2 14 4 34 2 rfl rfl rfl (by decide) ?_))); refine AL.no ?_; (iterate 2 refine AL.rm ?_); refine AL.nil (AW.block (AW.loopM (ι := Nat × Nat) [39, 40, 41, 42, 43, 44, 45, 46, 47] (fun ⟨j, gL⟩ => [(38, AI (j : Int))]) [3] (fun ⟨j, gL⟩ => [(0, ⟨g, .box 138 [.sl (byA (jEb j (q11 r)).2.b), .sc (.int .i64 (jEb j (q11 r)).2.f), .sc (.int .i64 (jEb j (q11 r)).2.at_), .sc (.bool (jEb j (q11 r)).2.bad)]⟩), (4, ⟨gL, owM true 34 2 ((jEb j (q11 r)).1.map TagD.cs)⟩), (2, ⟨1, .box 48 [AI (jBo r).1.rep, AI (jBo r).1.n, AI (jBo (q1 r)).1.rep, AI (jBo (q1 r)).1.n, AI (numP (q2 r)).1, AS (jAH (q3 r) 12).1, AI (numP (q4 r)).1, AS (jAH (q5 r) 12).1, AI (jCb (q6 r)).1.scope, AS (jCb (q6 r)).1.group, AS (jCb (q6 r)).1.name, AI (numP (q7 r)).1, AB (jCR (q8 r)).1, AS (jAH (q9 r) 40).1, .ow 4 gL]⟩)]) (fun ⟨j, gL⟩ => j ≤ qn r) (fun ⟨j, gL⟩ => qn r - j) (0, 1) (Nat.zero_le _) wk (by simp only [anys, upds, offs, List.set_cons_zero, List.set_cons_succ]; repeat (first | exact Sk.nil _ | refine Sk.same _ ?_ | refine Sk.scr _ (by decide) ?_ | refine Sk.eq _ (by rfl) ?_)) ?_))
  rintro ⟨j, gL⟩ gs hJ; refine AW.nm ?_; refine AW.g (AL.r qb ?_); refine AL.nil (AW.seq (AW.cd rfl (fun h39 => ?_) (fun h39 => ?_)))
  ·refine AW.skip (AW.seq (AW.block (AW.drawA (by kernel_rfl) ?_)))
   have hto := jJn (jNc h).ok j
   refine ADA.r 0 rfl (ARdP.a (jAV rfl jBh rfl rfl ⟨_, _, rfl⟩)) rfl ?_; refine ADA.r 2 rfl (ARdP.a (jAr rfl rfl)) rfl ?_; refine ADA.b ?_; refine ADB.all (is := [1, 3]) (by kernel_rfl) (by simp) ?_; intro i hi; simp only [List.mem_cons, List.not_mem_nil, or_false] at hi
   rcases hi with rfl | rfl
   ·refine ⟨_, rfl, rfl, AOpB.op (ARd.opB (ql jCs) ?_)⟩; refine ADB.n ?_; refine ADB.mv 3 rfl (jAi (jG1 g (jEb j (q11 r)).2 hto.1.ok) [0] ?_); rintro y os' ⟨rfl, rfl⟩; refine ADB.noR ?_; refine ADB.mv 4 rfl (AOpB.op (jCa rfl jGl jDZ rfl rfl ?_)); refine ADB.n ?_; refine ADB.mv 5 rfl (jBy rfl jGl rfl rfl (jBQ rfl) (by first | omega | (simp; omega) | simp) (by first | omega | (simp; omega) | simp) ?_); refine ADB.n ?_; refine ADB.r 6 rfl (jAV rfl jBh rfl rfl ⟨_, _, rfl⟩) rfl ?_; refine ADB.mv 7 rfl (jCZ rfl rfl rfl rfl rfl jIe ?_); refine ADB.n ?_; refine ADB.done (by kernel_rfl) ?_; change AW _ _ _ _ _; refine AW.region ?_; refine AL.r qA ?_; refine AL.rm ?_; refine AL.nil ?_; refine ⟨⟨j + 1, gL + 1⟩, ?_, by first | omega | (simp only []; omega), ?_, ?_⟩
    ·show j + 1 ≤ qn r; omega
    ·exact wk
    simp only [anys, upds, offs, List.set_cons_zero, List.set_cons_succ]; repeat (first | exact Sk.nil _ | refine Sk.same _ ?_ | refine Sk.scr _ (by decide) ?_ | refine Sk.eq _ (by first | rfl | exact jHz) ?_)
   refine ⟨_, rfl, rfl, jAi (jG1 g (jEb j (q11 r)).2 hto.1.ok) [0] ?_⟩; rintro y os' ⟨rfl, rfl⟩; refine ADB.noR ?_; refine ADB.all (is := [1, 4]) (by kernel_rfl) (by simp) ?_; intro i hi; simp only [List.mem_cons, List.not_mem_nil, or_false] at hi
   rcases hi with rfl | rfl
   ·refine ⟨_, rfl, rfl, AOpB.op (ARd.opB (ql jCs) ?_)⟩; refine ADB.n ?_; refine ADB.mv 4 rfl (AOpB.op (jCa rfl jGl jDZ rfl rfl ?_)); refine ADB.n ?_; refine ADB.mv 5 rfl (jBy rfl jGl rfl rfl (jBQ rfl) (by first | omega | (simp; omega) | simp) (by first | omega | (simp; omega) | simp) ?_); refine ADB.n ?_; refine ADB.r 6 rfl (jAV rfl jBh rfl rfl ⟨_, _, rfl⟩) rfl ?_; refine ADB.mv 7 rfl (jCZ rfl rfl rfl rfl rfl jIe ?_); refine ADB.n ?_; refine ADB.done (by kernel_rfl) ?_; change AW _ _ _ _ _; refine AW.region ?_; refine AL.r qA ?_; refine AL.rm ?_; refine AL.nil ?_; refine ⟨⟨j + 1, gL + 1⟩, ?_, by first | omega | (simp only []; omega), ?_, ?_⟩
    ·show j + 1 ≤ qn r; omega
    ·exact wk
    simp only [anys, upds, offs, List.set_cons_zero, List.set_cons_succ]; repeat (first | exact Sk.nil _ | refine Sk.same _ ?_ | refine Sk.scr _ (by decide) ?_ | refine Sk.eq _ (by first | rfl | exact jHz) ?_)
   refine ⟨_, rfl, rfl, AOpB.op (jCa rfl jGl jDZ rfl rfl ?_)⟩; refine ADB.n ?_; refine ADB.mv 1 rfl (AOpB.op (ARd.opB (ql jCs) ?_)); refine ADB.n ?_; refine ADB.mv 5 rfl (jBy rfl jGl rfl rfl (jBQ rfl) (by first | omega | (simp; omega) | simp) (by first | omega | (simp; omega) | simp) ?_); refine ADB.n ?_; refine ADB.r 6 rfl (jAV rfl jBh rfl rfl ⟨_, _, rfl⟩) rfl ?_; refine ADB.mv 7 rfl (jCZ rfl rfl rfl rfl rfl jIe ?_); refine ADB.n ?_; refine ADB.done (by kernel_rfl) ?_; change AW _ _ _ _ _; refine AW.region ?_; refine AL.r qA ?_; refine AL.rm ?_; refine AL.nil ?_; refine ⟨⟨j + 1, gL + 1⟩, ?_, by first | omega | (simp only []; omega), ?_, ?_⟩
   ·show j + 1 ≤ qn r; omega
   ·exact wk
   simp only [anys, upds, offs, List.set_cons_zero, List.set_cons_succ]; repeat (first | exact Sk.nil _ | refine Sk.same _ ?_ | refine Sk.scr _ (by decide) ?_ | refine Sk.eq _ (by first | rfl | exact jHz) ?_)
  refine AW.exit ?_; change AW _ _ _ _ _; refine AW.seq (AW.g ?_); obtain rfl : j = qn r := (by omega); refine AL.rm ?_; refine AL.oq (jAi (jDB g (q12 r)) [0] ?_); rintro y os' ⟨rfl, rfl⟩; refine AL.noR ?_; refine AL.nil (AW.cd rfl (fun h49 => ?_) (fun h49 => ?_))
  ·refine AW.g (AL.r (qB jHZ jDs) ?_); refine AL.oq (oS jCc ?_); refine AL.no ?_; refine AL.nil (AW.ret ?_)
   repeat with_reducible first | refine jAp ?_ | refine jAe ?_
   with_reducible first | refine jAw ?_ | refine jAf ?_
   refine jAY rfl (ResV.cells rfl rfl jAZ (Nat.le_of_ble_eq_true rfl) rfl) rfl ?_; rw [getO, if_pos h49]; exact ⟨rfl, rfl⟩
  refine AW.skip (AW.seq (AW.g (AL.settlebx 2 14 rfl rfl rfl (by first | rfl | exact jBe _ _ _ _) ?_))); refine AL.no ?_; refine AL.r (qN jAZ) ?_; refine AL.cl (jKU (rawO r)) ?_; refine AL.no ?_; refine AL.r qu ?_; refine AL.nil (AW.cd rfl (fun h53 => ?_) (fun h53 => ?_))
  ·refine AW.g (AL.rm ?_); refine AL.oq (jAi (jBX g (q12 r)) [0] ?_); rintro y os' ⟨rfl, rfl⟩; refine AL.noR ?_; refine AL.nil (AW.g (AL.r (qB jHZ jDs) ?_)); refine AL.oq (oS jCc ?_); refine AL.no ?_; refine AL.nil (AW.ret ?_)
   repeat with_reducible first | refine jAp ?_ | refine jAe ?_
   with_reducible first | refine jAw ?_ | refine jAf ?_
   refine jAY rfl (ResV.cells rfl rfl jAZ (Nat.le_of_ble_eq_true rfl) rfl) rfl ?_; rw [getO, if_neg (by rw [h49]; decide), if_neg (by rw [h53]; decide)]; exact ⟨rfl, rfl⟩
  refine AW.skip (AW.g (AL.r (qN jAZ) ?_)); refine AL.oq (oS jCc ?_); refine AL.no ?_; refine AL.nil (AW.ret ?_)
  repeat with_reducible first | refine jAp ?_ | refine jAe ?_
  with_reducible first | refine jAw ?_ | refine jAf ?_
  refine jAY rfl (ResV.cells rfl rfl jAZ (Nat.le_of_ble_eq_true rfl) rfl) rfl ?_; rw [getO, if_neg (by rw [h49]; decide), if_pos h53]; exact ⟨rfl, rfl⟩
end
set_option maxRecDepth 100000
structure OpD.Wf (o : OpD) : Prop where
  id1 : i64R o.id.rep
  id2 : i64R o.id.n
  sc1 : i64R o.schema.rep
  sc2 : i64R o.schema.n
  time : i64R o.time
  kind : i64R o.kind
  scope : i64R o.at_.scope
  delta : i64R o.delta
  drops : ∀ t ∈ o.drops, i64R t.rep ∧ i64R t.n
def po1 (f : Int) (o : OpD) : List UInt8 := tagP f o.id
def po2 (f : Int) (o : OpD) : List UInt8 := po1 f o ++ tagP f o.schema
def po3 (f : Int) (o : OpD) : List UInt8 := po2 f o ++ putN f o.time
def po4 (f : Int) (o : OpD) : List UInt8 := po3 f o ++ jC5 f o.cart
def po5 (f : Int) (o : OpD) : List UInt8 := po4 f o ++ putN f o.kind
def po6 (f : Int) (o : OpD) : List UInt8 := po5 f o ++ jC5 f o.item
def po7 (f : Int) (o : OpD) : List UInt8 := po6 f o ++ refP f o.at_
def po8 (f : Int) (o : OpD) : List UInt8 := po7 f o ++ putN f o.delta
def po9 (f : Int) (o : OpD) : List UInt8 := po8 f o ++ jGR o.has
def po10 (f : Int) (o : OpD) : List UInt8 := po9 f o ++ jC5 f o.text
def po11 (f : Int) (o : OpD) : List UInt8 := po10 f o ++ putN f (o.drops.length : Nat)
def po12 (f : Int) (o : OpD) (k : Nat) : List UInt8 := po11 f o ++ (o.drops.take k).flatMap (tagP f)
def putO (f : Int) (o : OpD) : List UInt8 := po12 f o o.drops.length
set_option maxRecDepth 100000
structure V6D.Wf (v : V6D) : Prop where
  a : i64R v.a
  b : i64R v.b
  c : i64R v.c
  d : i64R v.d
  e : i64R v.e
  f : i64R v.f
def vecP (f : Int) (v : V6D) : List UInt8 := putN f v.a ++ putN f v.b ++ putN f v.c ++ putN f v.d ++ putN f v.e ++ putN f v.f
theorem jHS (f : Int) (v : V6D) : (vecP f v).length ≤ 60 := by
  have := jAG f v.a; have := jAG f v.b; have := jAG f v.c; have := jAG f v.d; have := jAG f v.e; have := jAG f v.f
  unfold vecP
  simp only [List.length_append]; omega
theorem vput_c (b : List UInt8) (f : Int) (v : V6D) (hb : b.length ≤ 1000000) (hf : i64R f) (hw : v.Wf) : AC Tryz.prog 45 [.sl (byA b), .sc (.int .i64 f), v.av] (fun r => r = .s (.sl (byA (b ++ vecP f v)))) := by
  have a1 := jAG f v.a; have a2 := jAG f v.b; have a3 := jAG f v.c; have a4 := jAG f v.d; have a5 := jAG f v.e; have a6 := jHS f v
  have hbb := jAd b
  change AC _ _ [.sl (byA b), .sc (.int .i64 f), .ag [AI v.a, AI v.b, AI v.c, AI v.d, AI v.e, AI v.f]] _; refine AC.of' 19 1 Tryz.func45 rfl ?_; change AW _ _ _ _ [TK.mk 0 .off]; refine AW.g (AL.oq (AOpB.op (oB 0 ?_))); refine AL.n ?_; refine AL.ra ?_; refine AL.nil (AW.g (AL.ra ?_)); refine AL.nil (AW.seq (AW.g (AL.rm ?_))); refine AL.nil (AW.block (AW.unroll 7 ?_)); change AW _ _ _ _ _; refine AW.g (AL.r qb ?_); refine AL.nil (AW.seq (AW.cond_t rfl (AW.skip (AW.seq (AW.block (AW.g (AL.rm ?_))))))); refine AL.ra ?_; refine AL.nil (AW.region ?_); (iterate 3 refine AL.rm ?_); refine AL.r (jAx 0 rfl jBS rfl rfl rfl) ?_; refine AL.r (ql ag_3) ?_; refine AL.cl (jM6 f v.a hf hw.a) ?_; refine AL.n ?_; refine AL.ra ?_; refine AL.nil (AW.region (AL.r (jAj rfl rfl rfl (rfl : _ = (1 : Int))) ?_)); refine AL.rm ?_; refine AL.nil (AW.g (AL.r qb ?_)); refine AL.nil (AW.seq (AW.cond_t rfl (AW.skip (AW.seq (AW.block (AW.g (AL.rm ?_))))))); refine AL.ra ?_; refine AL.nil ?_
  change AW _ _ _ _ _; refine AW.region ?_; (iterate 3 refine AL.rm ?_); refine AL.r (jAx 1 rfl jBS rfl rfl rfl) ?_; refine AL.r (ql ag_3) ?_; refine AL.cl (jGV (putN f v.a) f v.b hf hw.b (by omega)) ?_; refine AL.n ?_; refine AL.ra ?_; refine AL.nil (AW.region (AL.r (jAj rfl rfl rfl (rfl : _ = (2 : Int))) ?_)); refine AL.rm ?_; refine AL.nil (AW.g (AL.r qb ?_)); refine AL.nil (AW.seq (AW.cond_t rfl (AW.skip (AW.seq (AW.block (AW.g (AL.rm ?_))))))); refine AL.ra ?_; refine AL.nil (AW.region ?_); (iterate 3 refine AL.rm ?_); refine AL.r (jAx 2 rfl jBS rfl rfl rfl) ?_; refine AL.r (ql ag_3) ?_; refine AL.cl (jGV (putN f v.a ++ putN f v.b) f v.c hf hw.c (by simp only [List.length_append]; omega)) ?_; refine AL.n ?_; refine AL.ra ?_; refine AL.nil (AW.region (AL.r (jAj rfl rfl rfl (rfl : _ = (3 : Int))) ?_)); refine AL.rm ?_; refine AL.nil (AW.g (AL.r qb ?_)); refine AL.nil (AW.seq (AW.cond_t rfl (AW.skip (AW.seq (AW.block (AW.g (AL.rm ?_))))))); refine AL.ra ?_; refine AL.nil ?_
  change AW _ _ _ _ _; refine AW.region ?_; (iterate 3 refine AL.rm ?_); refine AL.r (jAx 3 rfl jBS rfl rfl rfl) ?_; refine AL.r (ql ag_3) ?_; refine AL.cl (jGV (putN f v.a ++ putN f v.b ++ putN f v.c) f v.d hf hw.d (by simp only [List.length_append]; omega)) ?_; refine AL.n ?_; refine AL.ra ?_; refine AL.nil (AW.region (AL.r (jAj rfl rfl rfl (rfl : _ = (4 : Int))) ?_)); refine AL.rm ?_; refine AL.nil (AW.g (AL.r qb ?_)); refine AL.nil (AW.seq (AW.cond_t rfl (AW.skip (AW.seq (AW.block (AW.g (AL.rm ?_))))))); refine AL.ra ?_; refine AL.nil (AW.region ?_); (iterate 3 refine AL.rm ?_); refine AL.r (jAx 4 rfl jBS rfl rfl rfl) ?_; refine AL.r (ql ag_3) ?_; refine AL.cl (jGV (putN f v.a ++ putN f v.b ++ putN f v.c ++ putN f v.d) f v.e hf hw.e (by simp only [List.length_append]; omega)) ?_; refine AL.n ?_; refine AL.ra ?_; refine AL.nil (AW.region (AL.r (jAj rfl rfl rfl (rfl : _ = (5 : Int))) ?_)); refine AL.rm ?_; refine AL.nil (AW.g (AL.r qb ?_)); refine AL.nil (AW.seq (AW.cond_t rfl (AW.skip (AW.seq (AW.block ?_)))))
  refine AW.g (AL.rm ?_); refine AL.ra ?_; refine AL.nil (AW.region ?_); (iterate 3 refine AL.rm ?_); refine AL.r (jAx 5 rfl jBS rfl rfl rfl) ?_; refine AL.r (ql ag_3) ?_; refine AL.cl (jGV (putN f v.a ++ putN f v.b ++ putN f v.c ++ putN f v.d ++ putN f v.e) f v.f hf hw.f (by simp only [List.length_append]; omega)) ?_; refine AL.n ?_; refine AL.ra ?_; refine AL.nil (AW.region (AL.r (jAj rfl rfl rfl (rfl : _ = (6 : Int))) ?_)); refine AL.rm ?_; refine AL.nil (AW.g (AL.r qb ?_)); refine AL.nil (AW.seq (AW.cond_f rfl (AW.exit ?_))); change AW _ _ _ _ _; refine AW.g ?_; (iterate 2 refine AL.rm ?_); refine AL.cl (jI4 b (vecP f v) (by omega) (by omega)) ?_; refine AL.n ?_; refine AL.ra ?_; refine AL.nil (AW.ret (r1t ?_)); rfl
def lstP {α : Type} (p : α → List UInt8) (b : List UInt8) (f : Int) (l : List α) (k : Nat) : List UInt8 := b ++ putN f (l.length : Nat) ++ (l.take k).flatMap p
theorem jHL {α : Type} {p : α → List UInt8} {b : List UInt8} {f : Int} {l : List α} {m : Nat} (h : ∀ x ∈ l, (p x).length ≤ m) (k : Nat) (hk : k ≤ l.length) : (lstP p b f l k).length ≤ b.length + 10 + m * k := by
  have hn := jAG f (l.length : Nat)
  have key : ∀ q : List α, (∀ x ∈ q, (p x).length ≤ m) → (q.flatMap p).length ≤ m * q.length := fun q => by
    induction q with
    | nil => intro _; simp
    | cons x q ih =>
      intro hq
      have h1 := hq x (by simp); have h2 := ih fun y hy => hq y (by simp [hy])
      simp only [List.flatMap_cons, List.length_append, List.length_cons, Nat.mul_succ]; omega
  have := key (l.take k) fun x hx => h x (List.mem_of_mem_take hx)
  rw [List.length_take, Nat.min_eq_left hk] at this
  unfold lstP
  simp only [List.length_append]; omega
section
variable (b : List UInt8) (f : Int) (hb : b.length ≤ 10000) (hf : i64R f) (h : okF f = true)
include hb hf
include h
end
set_option maxRecDepth 100000
section
variable {r : RdrD} {f : Int} {pre suf : List UInt8}
theorem jKI (h : badP r = true) : ∀ n, badP (jEb n r).2 = true
  | 0 => h
  | n + 1 => jDO (jKI h n)
end
theorem jLJ {o : OpD} (h : jBs o = true) : o.cart.length ≤ 12 ∧ o.item.length ≤ 12 ∧ (o.at_.group.length ≤ 12 ∧ o.at_.name.length ≤ 12) ∧ o.text.length ≤ 40 ∧ o.drops.length ≤ 60 := by
  rw [← jHa] at h
  unfold jBz jFj at h
  have hn := @jDl
  have hp := @jGc o.at_
  have hs := @jIm o.at_
  have e0 : ∀ l : jAU, l.isEmpty = true → l.length ≤ 12 := fun l h => by rw [List.isEmpty_iff.1 h]; simp
  have hd : jEi o = true → o.drops.length ≤ 60 := fun h => by
    unfold jEi at h
    simp only [Bool.and_eq_true, decide_eq_true_eq] at h
    exact h.1
  have e1 : o.text.isEmpty = true → o.text.length ≤ 40 := fun h => by rw [List.isEmpty_iff.1 h]; simp
  have e2 : o.at_ = ⟨0, [], []⟩ → o.at_.group.length ≤ 12 ∧ o.at_.name.length ≤ 12 := fun h => by rw [h]; simp
  grind
end Go.Proofs.YtlapcfnmmpbeeaaGreat
