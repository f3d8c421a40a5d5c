/- A part of a proof. -/
import Derived.Test.YtlapcfnmmpbeeaaGreatPO42
import Derived.Test.YtlapcfnmmpbeeaaGreatPO45
import Derived.Test.YtlapcfnmmpbeeaaGreatPO46
import Derived.Test.YtlapcfnmmpbeeaaGreatPO47
import Derived.Test.YtlapcfnmmpbeeaaGreatPO49
set_option linter.unusedSimpArgs false
set_option linter.unusedVariables false
namespace Go.Proofs.YtlapcfnmmpbeeaaGreat
set_option maxRecDepth 100000
set_option maxRecDepth 100000
open Go.RowKit
theorem jHT {Y1 Y2 : ThingD × Int × Bool} {es : List OpD} {ok v : Bool} {n : NoteD} {e w : Bool} (hk : Y1.1.n = 3) (e5 : ok = (e && w)) (e6 : n = ⟨3, Y2.1.n, 0, z6, [], [], es⟩) (hv : v = (e && w)) : RNT ok n (.s (.tu [.ag [AI Y1.1.n, AI Y2.1.n, AI 0, AI 0, AI 0, AI 0, AI 0, AI 0, AI 0, .sl [], .sl [], .sl (es.map OpD.cs)], AB v])) := by
  rw [hk]; exact jIr (e5.trans hv.symm) e6
section
variable {b : List UInt8} {f : Int} {Y1 Y2 : ThingD × Int × Bool}
    (c1 : AC Tryz.prog 118 [.sl (byA b), .sc (.int .i64 0), .sc (.int .i64 f), (askT 6 4).av] (fun r => r = .s (.tu [.ag [AI (Y1.1).kind, AI (Y1.1).n, AS (Y1.1).s, AB (Y1.1).f, AI (Y1.1).t.rep, AI (Y1.1).t.n, AI (Y1.1).v.a, AI (Y1.1).v.b, AI (Y1.1).v.c, AI (Y1.1).v.d, AI (Y1.1).v.e, AI (Y1.1).v.f, AI (Y1.1).r.scope, AS (Y1.1).r.group, AS (Y1.1).r.name, AI (Y1.1).most], AI Y1.2.1, AB Y1.2.2])))
    (c2 : AC Tryz.prog 118 [.sl (byA b), .sc (.int .i64 Y1.2.1), .sc (.int .i64 f), (askT 6 6).av] (fun r => r = .s (.tu [.ag [AI (Y2.1).kind, AI (Y2.1).n, AS (Y2.1).s, AB (Y2.1).f, AI (Y2.1).t.rep, AI (Y2.1).t.n, AI (Y2.1).v.a, AI (Y2.1).v.b, AI (Y2.1).v.c, AI (Y2.1).v.d, AI (Y2.1).v.e, AI (Y2.1).v.f, AI (Y2.1).r.scope, AS (Y2.1).r.group, AS (Y2.1).r.name, AI (Y2.1).most], AI Y2.2.1, AB Y2.2.2])))
    (h1 : Y1.2.2 = true) (h2 : Y2.2.2 = true)
include c1 c2 h1 h2
set_option maxHeartbeats 4000000 in
theorem rnote_3 {Y5 : ThingD × Int × Bool} {ge : Int → OpD × Int × Bool} {ok : Bool} {n : NoteD} (hk : Y1.1.n = 3) (hb : b.length ≤ 60000)
    (c5 : AC Tryz.prog 118 [.sl (byA b), .sc (.int .i64 Y2.2.1), .sc (.int .i64 f), (askT 6 6).av] (fun r => r = .s (.tu [.ag [AI (Y5.1).kind, AI (Y5.1).n, AS (Y5.1).s, AB (Y5.1).f, AI (Y5.1).t.rep, AI (Y5.1).t.n, AI (Y5.1).v.a, AI (Y5.1).v.b, AI (Y5.1).v.c, AI (Y5.1).v.d, AI (Y5.1).v.e, AI (Y5.1).v.f, AI (Y5.1).r.scope, AS (Y5.1).r.group, AS (Y5.1).r.name, AI (Y5.1).most], AI Y5.2.1, AB Y5.2.2])))
    (hn : Y5.2.2 = true → 0 ≤ Y5.1.n ∧ Y5.1.n ≤ 6)
    (cE : ∀ k, AC Tryz.prog 120 [.sl (byA b), .sc (.int .i64 (lstB ge Y5.2.1 k).2.1), .sc (.int .i64 f)] (fun r => r = .s (.tu [.ag [AI ((ge (lstB ge Y5.2.1 k).2.1).1).id.rep, AI ((ge (lstB ge Y5.2.1 k).2.1).1).id.n, AI ((ge (lstB ge Y5.2.1 k).2.1).1).schema.rep, AI ((ge (lstB ge Y5.2.1 k).2.1).1).schema.n, AI ((ge (lstB ge Y5.2.1 k).2.1).1).time, AS ((ge (lstB ge Y5.2.1 k).2.1).1).cart, AI ((ge (lstB ge Y5.2.1 k).2.1).1).kind, AS ((ge (lstB ge Y5.2.1 k).2.1).1).item, AI ((ge (lstB ge Y5.2.1 k).2.1).1).at_.scope, AS ((ge (lstB ge Y5.2.1 k).2.1).1).at_.group, AS ((ge (lstB ge Y5.2.1 k).2.1).1).at_.name, AI ((ge (lstB ge Y5.2.1 k).2.1).1).delta, AB ((ge (lstB ge Y5.2.1 k).2.1).1).has, AS ((ge (lstB ge Y5.2.1 k).2.1).1).text, .sl (((ge (lstB ge Y5.2.1 k).2.1).1).drops.map TagD.cs)], AI (ge (lstB ge Y5.2.1 k).2.1).2.1, AB (ge (lstB ge Y5.2.1 k).2.1).2.2])))
    (hno : Y5.2.2 = false ∨ (lstB ge Y5.2.1 Y5.1.n.toNat).2.2 = false → ok = false)
    (hyes : Y5.2.2 = true → (lstB ge Y5.2.1 Y5.1.n.toNat).2.2 = true → ok = (decide ((lstB ge Y5.2.1 Y5.1.n.toNat).2.1 = b.length) && jBn ⟨3, Y2.1.n, 0, z6, [], [], (lstB ge Y5.2.1 Y5.1.n.toNat).1⟩) ∧ n = ⟨3, Y2.1.n, 0, z6, [], [], (lstB ge Y5.2.1 Y5.1.n.toNat).1⟩)
    (cR : AC Tryz.prog 9 [.ag [AI Y1.1.n, AI Y2.1.n, AI 0, AI 0, AI 0, AI 0, AI 0, AI 0, AI 0, .sl [], .sl [], .sl ((lstB ge Y5.2.1 Y5.1.n.toNat).1.map OpD.cs)]] (fun r => r = .s (AB (jBn ⟨3, Y2.1.n, 0, z6, [], [], (lstB ge Y5.2.1 Y5.1.n.toNat).1⟩)))) :
    AC Tryz.prog 67 [.sl (byA b), .sc (.int .i64 f)] (RNT ok n) := by
  refine AC.of' 216 16 Tryz.func67 rfl ?_; change AW _ _ _ _ [TK.mk 0 .off, TK.mk 0 .off, TK.mk 0 .off, TK.mk 0 .off, TK.mk 0 .off, TK.mk 0 .off, TK.mk 0 .off, TK.mk 0 .off, TK.mk 0 .off, TK.mk 0 .off, TK.mk 0 .off, TK.mk 0 .off, TK.mk 0 .off, TK.mk 0 .off, TK.mk 0 .off, TK.mk 0 .off]; refine AW.g (AL.oq (AOpB.op (oA 0 jA2 ?_))); refine AL.n ?_; refine AL.ra ?_; refine AL.nil (AW.g ?_); (iterate 2 refine AL.rm ?_); refine AL.r (qB jAO jAq) ?_; refine AL.cl (c1) ?_; refine AL.n ?_; refine AL.rm ?_; refine AL.r qe ?_; refine AL.r qe ?_; refine AL.r qe ?_; refine AL.oq (AOpB.op (oA 1 jAq ?_)); refine AL.n ?_; refine AL.oq (oS jAA ?_); refine AL.n ?_; (iterate 2 refine AL.ra ?_); refine AL.nil (AW.seq (AW.g (AL.rm ?_))); refine AL.r qu ?_; refine AL.nil (AW.cd rfl (fun h40 => ?_) (fun h40 => ?_))
  ·(exfalso; simp_all)
  refine AW.skip (AW.g ?_); (iterate 3 refine AL.rm ?_); refine AL.r (qB jAO jAq) ?_; refine AL.cl (c2) ?_; refine AL.n ?_; refine AL.rm ?_; refine AL.r qe ?_; refine AL.r qe ?_; refine AL.r qe ?_; refine AL.oq (AOpB.op (oA 2 jAq ?_)); refine AL.n ?_; refine AL.oq (oS jAA ?_); refine AL.n ?_; (iterate 2 refine AL.ra ?_); refine AL.nil (AW.seq (AW.g (AL.rm ?_))); refine AL.r qu ?_; refine AL.nil (AW.cd rfl (fun h52 => ?_) (fun h52 => ?_))
  ·(exfalso; simp_all)
  refine AW.skip (AW.g ?_); (iterate 2 (refine AL.r (qa jA8) ?_; refine AL.r (ql ag_2) ?_)); refine AL.r (qB jCh jA2) ?_; refine AL.oq (AOpB.op (oA 3 jA2 ?_)); refine AL.n ?_; refine AL.oq (oS jAR ?_); refine AL.n ?_; refine AL.nil (AW.seq (AW.g (AL.bxn 3 [AI Y1.1.n, AI Y2.1.n, AI 0, AI 0, AI 0, AI 0, AI 0, AI 0, AI 0, .sc (.slice none 0 0), .sc (.slice none 0 0), .sc (.slice none 0 0)] rfl (by kernel_rfl) ?_))); refine AL.no ?_; refine AL.r (qa jAo) ?_; refine AL.nilbx 3 9 4 34 2 rfl rfl rfl (by decide) ?_; refine AL.no ?_; refine AL.nilbx 3 10 5 44 20 rfl rfl rfl (by decide) ?_; refine AL.no ?_; refine AL.nilbx 3 11 7 48 15 rfl rfl rfl (by decide) ?_; refine AL.no ?_; refine AL.settlebx 3 9 rfl rfl rfl (by first | rfl | exact jBe _ _ _ _) ?_; refine AL.no ?_; refine AL.settlebx 3 10 rfl rfl rfl (by first | rfl | exact jBe _ _ _ _) ?_; refine AL.no ?_; refine AL.r (ql ag_3) ?_; refine AL.r qb ?_; refine AL.nil (AW.cd rfl (fun h61 => ?_) (fun h61 => ?_))
  ·(exfalso; omega)
  refine AW.skip (AW.seq (AW.g (AL.r (qa jAo) ?_))); refine AL.r (ql ag_3) ?_; refine AL.r qb ?_; refine AL.rm ?_; refine AL.fk (d := 81) rfl (fun h81 => ?_) (fun h81 => ?_)
  ·(exfalso; omega)
  refine AL.n ?_; refine AL.ro (qa jAo) ?_; refine AL.ro (ql ag_3) ?_; refine AL.ro qb ?_; refine AL.r qf ?_; refine AL.nil (AW.cd rfl (fun h85 => ?_) (fun h85 => ?_))
  ·(exfalso; omega)
  refine AW.skip (AW.seq (AW.g (AL.r (qa jAo) ?_))); refine AL.r (ql ag_3) ?_; refine AL.r qb ?_; refine AL.rm ?_; refine AL.fk (d := 105) rfl (fun h105 => ?_) (fun h105 => ?_)
  ·(exfalso; omega)
  refine AL.n ?_; refine AL.ro (qa jAo) ?_; refine AL.ro (ql ag_3) ?_; refine AL.ro qb ?_; refine AL.r qf ?_; refine AL.rm ?_; refine AL.fk (d := 110) rfl (fun h110 => ?_) (fun h110 => ?_)
  ·(exfalso; omega)
  refine AL.n ?_; refine AL.ro (qa jAo) ?_; refine AL.ro (ql ag_3) ?_; refine AL.ro qb ?_; refine AL.r qf ?_; refine AL.nil (AW.cd rfl (fun h114 => ?_) (fun h114 => ?_))
  ·refine AW.g (AL.ra ?_); refine AL.nil (AW.seq (AW.g (AL.r (qa jAo) ?_))); refine AL.r (ql ag_3) ?_; refine AL.r qb ?_; refine AL.nil (AW.cd rfl (fun h117 => ?_) (fun h117 => ?_))
   ·(exfalso; omega)
   refine AW.skip (AW.g ?_); (iterate 4 refine AL.rm ?_); refine AL.r (qB jAO jAq) ?_; refine AL.cl (c5) ?_; refine AL.n ?_; refine AL.rm ?_; refine AL.r qe ?_; refine AL.r qe ?_; refine AL.r qe ?_; refine AL.oq (AOpB.op (oA 6 jAq ?_)); refine AL.n ?_; refine AL.oq (oS jAA ?_); refine AL.n ?_; (iterate 2 refine AL.ra ?_); refine AL.nil (AW.seq (AW.g (AL.rm ?_))); refine AL.r qu ?_; refine AL.nil (AW.cd rfl (fun h129 => ?_) (fun h129 => ?_))
   ·refine AW.g (AL.r (qN jAB) ?_); refine AL.oq (oS jAR ?_); refine AL.n ?_; refine AL.ra ?_; refine AL.nil (AW.ret ?_); refine r2 jAB ?_; exact jEC (hno (.inl (by assumption)))
   refine AW.skip (AW.g (AL.rm ?_)); refine AL.ra ?_; refine AL.nil (AW.g ?_)
   have h5 : Y5.2.2 = true := (by assumption)
   obtain ⟨n1, n2⟩ := hn h5
   have hN : ((Y5.1.n.toNat : Nat) : Int) = Y5.1.n := Int.toNat_of_nonneg n1
   refine AL.ra ?_; refine AL.nil (AW.block (AW.loopM (ι := Nat × Nat × Bool) [5, 22, 23, 24, 25, 26, 27, 28, 29, 30, 132, 133, 134, 135, 136, 137, 138, 139, 140, 141, 142, 143, 144, 145, 146, 147, 148, 149, 150, 151, 152, 153, 154, 155, 156, 157, 158, 159, 160, 161, 162, 163, 164, 165, 166, 167, 168, 169, 170, 171, 172, 173, 174, 175, 176, 177, 178, 179, 180, 181, 182, 183, 184, 185, 186, 187, 188, 189, 190, 191, 192, 193, 194, 195, 196, 197, 198, 199, 200, 201, 202, 203, 204, 205, 206, 207, 208] (fun ⟨j, g2, v⟩ => [(21, AI (j : Int)), (7, AI (lstB ge Y5.2.1 j).2.1), (20, AB v)]) [8, 9, 10, 11, 12, 13, 14, 15] (fun ⟨j, g2, v⟩ => [(7, ⟨g2, owM true 48 15 ((lstB ge Y5.2.1 j).1.map OpD.cs)⟩), (3, ⟨1, .box 28 [AI Y1.1.n, AI Y2.1.n, AI 0, AI 0, AI 0, AI 0, AI 0, AI 0, AI 0, .sl [], .sl [], .ow 7 g2]⟩)]) (fun ⟨j, g2, v⟩ => j ≤ Y5.1.n.toNat ∧ (lstB ge Y5.2.1 j).2.2 = true ∧ v = true) (fun ⟨j, g2, v⟩ => Y5.1.n.toNat - j) (0, 1, Y5.2.2) (⟨Nat.zero_le _, rfl, h5⟩) wk (by simp only [anys, upds, offs, List.set_cons_zero, List.set_cons_succ]; repeat (first | exact Sk.nil _ | refine Sk.same _ ?_ | refine Sk.scr _ (by decide) ?_ | refine Sk.eq _ (by rfl) ?_)) ?_))
   rintro ⟨j, g2, v⟩ gs hJ; refine AW.nm ?_; obtain ⟨hj, hjo, hv⟩ := hJ; refine AW.seq (AW.g (AL.rm ?_)); refine AL.r (qa jA8) ?_; refine AL.r (ql ag_2) ?_; refine AL.r qb ?_; refine AL.nil (AW.cd rfl (fun h135 => ?_) (fun h135 => ?_))
   ·refine AW.skip (AW.seq (AW.block (AW.seq (AW.g (AL.r (qa jAo) ?_))))); refine AL.r (ql ag_3) ?_; refine AL.r qb ?_; refine AL.nil (AW.cd rfl (fun h140 => ?_) (fun h140 => ?_))
    ·(exfalso; omega)
    refine AW.skip (AW.seq (AW.g (AL.r (qa jAo) ?_))); refine AL.r (ql ag_3) ?_; refine AL.r qb ?_; refine AL.nil (AW.cd rfl (fun h164 => ?_) (fun h164 => ?_))
    ·(exfalso; omega)
    refine AW.skip (AW.seq (AW.g (AL.r (qa jAo) ?_))); refine AL.r (ql ag_3) ?_; refine AL.r qb ?_; refine AL.nil (AW.cd rfl (fun h186 => ?_) (fun h186 => ?_))
    ·refine AW.g ?_; (iterate 3 refine AL.rm ?_); refine AL.cl (cE j) ?_; refine AL.n ?_; refine AL.rm ?_; refine AL.r qe ?_; refine AL.r qe ?_; refine AL.r qe ?_; refine AL.oq (AOpB.op (oA 13 jDs ?_)); refine AL.n ?_; refine AL.oq (oS jCc ?_); refine AL.n ?_; (iterate 2 refine AL.ra ?_); refine AL.nil (AW.g (AL.r (qa jCe) ?_)); refine AL.r (ql jFe) ?_; refine AL.r (qN jAZ) ?_; refine AL.oq (AOpB.op (jCa rfl ap_26 jDs rfl rfl ?_)); refine AL.n ?_; refine AL.oq (jBy rfl ap_26 rfl rfl (jBQ rfl) (by simp only [List.length_map, jD4, List.length_cons, List.length_nil]; omega) (by simp only [List.length_map, jD4, List.length_cons, List.length_nil]; omega) ?_); refine AL.n ?_; refine AL.r (qa jCe) ?_; refine AL.oq (jCZ rfl rfl rfl rfl rfl sz_26 ?_); refine AL.n ?_; refine AL.nil (AW.g (AL.rm ?_)); refine AL.ra ?_; refine AL.nil (AW.region ?_); (iterate 2 refine AL.rm ?_); refine AL.fk (d := 203) rfl (fun h203 => ?_) (fun h203 => ?_)
     ·refine AL.n ?_; refine AL.ro (jAa rfl rfl) ?_; refine AL.r qt ?_; refine AL.ra ?_; refine AL.nil (AW.g (AL.rm ?_)); refine AL.r qu ?_; refine AL.nil (AW.cd rfl (fun h207 => ?_) (fun h207 => ?_))
      ·refine AW.seq (AW.settlebx 3 11 rfl rfl rfl (by first | rfl | exact jBe _ _ _ _) ?_); refine AW.norm (by (try simp only [anys, upds, offs, List.set_cons_zero, List.set_cons_succ]); (try rfl)) (by (try simp only [anys, upds, offs, List.set_cons_zero, List.set_cons_succ]); (try rfl)) ?_; refine AW.region (AL.r (qN jAB) ?_); refine AL.oq (oS jAR ?_); refine AL.n ?_; refine AL.ra ?_; refine AL.nil (AW.ret ?_); refine r2 jAB ?_
       (have := jE5 (get := ge) (a := Y5.2.1) (j := j + 1) (by rw [lstB, hjo]; simp_all) (Y5.1.n.toNat - (j + 1))); rw [show j + 1 + (Y5.1.n.toNat - (j + 1)) = Y5.1.n.toNat by omega] at this; exact jEC (hno (.inr this))
      refine AW.skip ?_; change AW _ _ _ _ _; refine AW.region ?_; refine AL.rm ?_; refine AL.r qA ?_; refine AL.ra ?_; refine AL.nil ?_; refine ⟨⟨j + 1, g2 + 1, (ge (lstB ge Y5.2.1 j).2.1).2.2⟩, ?_, by first | omega | (simp only []; omega), ?_, ?_⟩
      ·exact ⟨by omega, by rw [lstB, hjo]; simp_all, by simp_all⟩
      ·exact wk
      simp only [anys, upds, offs, List.set_cons_zero, List.set_cons_succ]; repeat (first | exact Sk.nil _ | refine Sk.same _ ?_ | refine Sk.scr _ (by decide) ?_ | refine Sk.eq _ (by first | rfl | (rw [lstB, List.map_append]; rfl)) ?_)
     (exfalso; simp_all)
    (exfalso; omega)
   refine AW.exit ?_; change AW _ _ _ _ _; refine AW.seq ?_; obtain rfl : j = Y5.1.n.toNat := (by omega); refine AW.settlebx 3 11 rfl rfl rfl (by first | rfl | exact jBe _ _ _ _) ?_; refine AW.norm (by (try simp only [anys, upds, offs, List.set_cons_zero, List.set_cons_succ]); (try rfl)) (by (try simp only [anys, upds, offs, List.set_cons_zero, List.set_cons_succ]); (try rfl)) ?_; refine AW.drawA (by kernel_rfl) ?_; refine ADA.r 1 rfl (ARdP.a (jAr rfl rfl)) rfl ?_; refine ADA.r 2 rfl (ARdP.a (jAr rfl rfl)) rfl ?_; refine ADA.r 3 rfl (ARdP.a (jEj rfl jAC rfl)) rfl ?_; refine ADA.r 4 rfl (ARdP.a (jEN rfl rfl rfl (fun _ => rfl))) rfl ?_; refine ADA.r 5 rfl (ARdP.a (jAr rfl rfl)) rfl ?_; refine ADA.fk (d := 214) rfl (fun h214 => ?_) (fun h214 => ?_)
   ·refine ADA.n ?_; refine ADA.b ?_; refine ADB.all (is := [0, 6]) (by kernel_rfl) (by simp) ?_; intro i hi; simp only [List.mem_cons, List.not_mem_nil, or_false] at hi
    rcases hi with rfl | rfl
    ·refine ⟨_, rfl, rfl, AOpB.op (ARd.opB (qN jAB) ?_)⟩; refine ADB.n ?_; refine ADB.mv 6 rfl (AOpB.op (ARd.opB (qN jAB) ?_)); refine ADB.n ?_; refine ADB.mv 7 rfl (AOpB.op (jAb (cR) rfl (by kernel_rfl) rfl (none) ?_)); rintro r rfl; refine ADB.n ?_; refine ADB.r 8 rfl (jBr rfl rfl rfl) rfl ?_; refine ADB.mv 9 rfl (oS jAR ?_); refine ADB.n ?_; refine ADB.r 10 rfl (jAk rfl rfl) rfl ?_; refine ADB.done (by kernel_rfl) ?_; change AW _ _ _ _ _; refine AW.ret ?_; refine r2 jAB ?_; obtain ⟨e5, e6⟩ := hyes h5 hjo; exact jHT hk e5 e6 (by simp_all)
    refine ⟨_, rfl, ⟨_, _, rfl, rfl, rfl⟩, AOpB.op (ARd.opB (qN jAB) ?_)⟩; refine ADB.n ?_; refine ADB.all (is := [0, 7]) (by kernel_rfl) (by simp) ?_; intro i hi; simp only [List.mem_cons, List.not_mem_nil, or_false] at hi
    rcases hi with rfl | rfl
    ·refine ⟨_, rfl, rfl, AOpB.op (ARd.opB (qN jAB) ?_)⟩; refine ADB.n ?_; refine ADB.mv 7 rfl (AOpB.op (jAb (cR) rfl (by kernel_rfl) rfl (none) ?_)); rintro r rfl; refine ADB.n ?_; refine ADB.r 8 rfl (jBr rfl rfl rfl) rfl ?_; refine ADB.mv 9 rfl (oS jAR ?_); refine ADB.n ?_; refine ADB.r 10 rfl (jAk rfl rfl) rfl ?_; refine ADB.done (by kernel_rfl) ?_; change AW _ _ _ _ _; refine AW.ret ?_; refine r2 jAB ?_; obtain ⟨e5, e6⟩ := hyes h5 hjo; exact jHT hk e5 e6 (by simp_all)
    refine ⟨_, rfl, ⟨_, _, rfl, rfl, rfl⟩, AOpB.op (jAb (cR) rfl (by kernel_rfl) rfl (none) ?_)⟩; rintro r rfl; refine ADB.n ?_; refine ADB.r 8 rfl (jBr rfl rfl rfl) rfl ?_; refine ADB.mv 0 rfl (AOpB.op (ARd.opB (qN jAB) ?_)); refine ADB.n ?_; refine ADB.mv 9 rfl (oS jAR ?_); refine ADB.n ?_; refine ADB.r 10 rfl (jAk rfl rfl) rfl ?_; refine ADB.done (by kernel_rfl) ?_; change AW _ _ _ _ _; refine AW.ret ?_; refine r2 jAB ?_; obtain ⟨e5, e6⟩ := hyes h5 hjo; exact jHT hk e5 e6 (by simp_all)
   refine ADA.n ?_; refine ADA.s 6 rfl ⟨_, _, rfl, rfl, rfl⟩ ?_; refine ADA.s 7 rfl ⟨_, _, rfl, rfl, rfl⟩ ?_; refine ADA.r 8 rfl (ARdP.a (jDi rfl rfl rfl)) rfl ?_; refine ADA.b ?_; refine ADB.mv 0 rfl (AOpB.op (ARd.opB (qN jAB) ?_)); refine ADB.n ?_; refine ADB.mv 9 rfl (oS jAR ?_); refine ADB.n ?_; refine ADB.r 10 rfl (jAk rfl rfl) rfl ?_; refine ADB.done (by kernel_rfl) ?_; change AW _ _ _ _ _; refine AW.ret ?_; refine r2 jAB ?_; obtain ⟨e5, e6⟩ := hyes h5 hjo; exact jHT hk e5 e6 (by simp_all)
  (exfalso; omega)
end
set_option maxRecDepth 100000
theorem jKl (b : List UInt8) (f a : Int) : (jBd b f a).1.lens.Small := by
  unfold jBd
  split
  · exact jLh b f _
  exact ⟨by simp [zE, zL, zeroF], by simp [zE, zL], by simp [zE, zL]⟩
theorem jIh {α : Type} {get : Int → α × Int × Bool} {P : α → Prop} (h : ∀ a, P (get a).1) (a : Int) : ∀ k, ∀ x ∈ (lstB get a k).1, P x
  | 0 => fun x hx => by simp [lstB] at hx
  | k + 1 => fun x hx => by
    rw [lstB] at hx
    simp only [List.mem_append, List.mem_singleton] at hx
    rcases hx with hx | rfl
    · exact jIh h a k x hx
    exact h _
theorem jIo {b : List UInt8} {f a m : Int} (hm : 0 ≤ m) : 0 ≤ (rd8 b a f (askT 6 m)).1.n ∧ (rd8 b a f (askT 6 m)).1.n ≤ m := by
  rw [rd8_6]
  split
  · exact ⟨Int.le_refl 0, hm⟩
  rename_i h
  exact ⟨by show 0 ≤ (getN b a f).1; omega, by show (getN b a f).1 ≤ m; omega⟩
section
variable {α : Type} {get : Int → α × Int × Bool} {b : List UInt8} {f a m : Int}
theorem jJJ (h : (rd8 b a f (askT 6 m)).2.2 = true) : tkB get b f a m = lstB get (rd8 b a f (askT 6 m)).2.1 (rd8 b a f (askT 6 m)).1.n.toNat := if_pos h
theorem jNk (h : (rd8 b a f (askT 6 m)).2.2 = false ∨ (lstB get (rd8 b a f (askT 6 m)).2.1 (rd8 b a f (askT 6 m)).1.n.toNat).2.2 = false) : (tkB get b f a m).2.2 = false := by
  unfold tkB
  split
  · rename_i h1
    rcases h with h | h
    · rw [h] at h1; cases h1
    exact h
  rfl
theorem jGW {k : Int} (hm : 0 ≤ m) (h : m ≤ 1000) : (lstB get k (rd8 b a f (askT 6 m)).1.n.toNat).1.length ≤ 1000 := by
  have := jIo (b := b) (f := f) (a := a) hm
  rw [jD4]; omega
end
section
variable {b : List UInt8} {f : Int} (hf : okF f = true) (hb : b.length ≤ 60000)
include hf hb
theorem nt_small (h : okNt (newR b f) = true) : ∀ e ∈ (jBD (newR b f)).edges, e.lens.Small := by
  cases h1 : (m1 b f).2.2 with
  | false => rw [nt_1 hf hb h1] at h; cases h
  | true =>
  cases h2 : (m2 b f).2.2 with
  | false => rw [nt_2 hf hb h1 h2] at h; cases h
  | true =>
  obtain ⟨_, _, k1, k2, _⟩ := nt_k hf hb h1 h2
  by_cases e0 : (m1 b f).1.n = 0
  · rw [(nt_0 hf hb h1 h2 e0).2]; intro e he; simp [note0] at he
  by_cases e1 : (m1 b f).1.n = 1
  · obtain ⟨t1, t2, t3, t4⟩ := nt_1t hf hb h1 h2 e1
    cases h3 : (m3 b f).2.2 with
    | false => rw [t1 h3] at h; cases h
    | true =>
    cases h4 : (m4 b f).2.2 with
    | false => rw [t2 h3 h4] at h; cases h
    | true =>
    cases h5 : (tkB (jG5 b f) b f (m4 b f).2.1 40).2.2 with
    | false => rw [t3 h3 h4 h5] at h; cases h
    | true => rw [(t4 h3 h4 h5).2]; intro e he; simp [note1] at he
  by_cases e2 : (m1 b f).1.n = 2
  · obtain ⟨t1, t2⟩ := nt_2e hf hb h1 h2 e2
    cases h3 : (tkB (jBd b f) b f (m2 b f).2.1 6).2.2 with
    | false => rw [t1 h3] at h; cases h
    | true =>
      rw [(t2 h3).2]
      intro e he
      have he : e ∈ (tkB (jBd b f) b f (m2 b f).2.1 6).1 := he
      unfold tkB at he
      split at he
      · exact jIh (P := fun e => e.lens.Small) (jKl b f) _ _ e he
      cases he
  by_cases e3 : (m1 b f).1.n = 3
  · obtain ⟨t1, t2⟩ := nt_3o hf hb h1 h2 e3
    cases h3 : (tkB (jC7 b f) b f (m2 b f).2.1 6).2.2 with
    | false => rw [t1 h3] at h; cases h
    | true => rw [(t2 h3).2]; intro e he; simp [note3] at he
  obtain ⟨t1, t2⟩ := nt_4 hf hb h1 h2 (by omega)
  cases h3 : (get4 b f (m2 b f).2.1).2.2 with
  | false => rw [t1 h3] at h; cases h
  | true => rw [(t2 h3).2]; intro e he; simp [note4] at he
theorem jM9 : AC Tryz.prog 67 [.sl (byA b), .sc (.int .i64 f)] (RNT (okNt (newR b f)) (jBD (newR b f))) := by
  have hb9 : b.length ≤ 1099511627776 := by omega
  have q0 : (0 : Int) ≤ 0 := Int.le_refl 0
  have q1 : 0 ≤ (m1 b f).2.1 := jA0 q0
  have q2 : 0 ≤ (m2 b f).2.1 := jA0 q1
  have c1 := g8_c b f hb9 0 q0 (askT 6 4) (by decide)
  have c2 := g8_c b f hb9 (m1 b f).2.1 q1 (askT 6 6) (by decide)
  have none_s : ∀ e ∈ ([] : List EdgeD), e.lens.Small := fun e he => by simp at he
  have z1 : ([] : List TagD).length ≤ 1000 := by decide
  have z2 : ([] : List EdgeD).length ≤ 1000 := by decide
  have z3 : ([] : List OpD).length ≤ 1000 := by decide
  cases h1 : (m1 b f).2.2 with
  | false => exact jJ7 (Y1 := m1 b f) (Y2 := m2 b f) c1 c2 (.inl h1) (nt_1 hf hb h1)
  | true =>
  cases h2 : (m2 b f).2.2 with
  | false => exact jJ7 (Y1 := m1 b f) (Y2 := m2 b f) c1 c2 (.inr h2) (nt_2 hf hb h1 h2)
  | true =>
  obtain ⟨_, _, k1, k2, _⟩ := nt_k hf hb h1 h2
  by_cases e0 : (m1 b f).1.n = 0
  · exact rnote_0 (Y1 := m1 b f) (Y2 := m2 b f) c1 c2 h1 h2 e0 hb (nt_0 hf hb h1 h2 e0) (by rw [e0]; exact rright_o 0 (by decide) (by decide) (by decide) (by decide) (m2 b f).1.n 0 z6 [] [] [] none_s z1 z2 z3)
  by_cases e4 : (m1 b f).1.n = 4
  · obtain ⟨t1, t2⟩ := nt_4 hf hb h1 h2 e4
    exact rnote_4 (Y1 := m1 b f) (Y2 := m2 b f) (Y4 := get4 b f (m2 b f).2.1) c1 c2 h1 h2 e4 hb (jMG b f hb9 _) t1 t2 (by rw [e4]; exact rright_4 (m2 b f).1.n 0 (v6 (get4 b f (m2 b f).2.1).1.v) [] [] [] none_s z1 z2 z3)
  by_cases e2 : (m1 b f).1.n = 2
  · obtain ⟨t1, t2⟩ := nt_2e hf hb h1 h2 e2
    exact rnote_2 (Y1 := m1 b f) (Y2 := m2 b f) (Y5 := rd8 b (m2 b f).2.1 f (askT 6 6)) (ge := jBd b f) c1 c2 h1 h2 e2 hb (g8_c b f hb9 (m2 b f).2.1 q2 (askT 6 6) (by decide))
      (fun _ => jIo (by decide)) (fun k => rget17_c b f hb9 _ (jGF (fun a h => jKD h) (jA0 q2) k)) (fun h => t1 (jNk h))
      (fun h5 hl => by
        have e := jJJ (get := jBd b f) h5
        have := t2 (by rw [e]; exact hl)
        unfold note2 at this
        rw [e] at this
        exact this)
      (by rw [e2]; exact rright_2 (m2 b f).1.n 0 z6 [] (lstB (jBd b f) (rd8 b (m2 b f).2.1 f (askT 6 6)).2.1 (rd8 b (m2 b f).2.1 f (askT 6 6)).1.n.toNat).1 [] (jIh (P := fun (e : EdgeD) => e.lens.Small) (jKl b f) _ _) z1 (jGW (by decide) (by decide)) z3)
  by_cases e3 : (m1 b f).1.n = 3
  · obtain ⟨t1, t2⟩ := nt_3o hf hb h1 h2 e3
    exact rnote_3 (Y1 := m1 b f) (Y2 := m2 b f) (Y5 := rd8 b (m2 b f).2.1 f (askT 6 6)) (ge := jC7 b f) c1 c2 h1 h2 e3 hb (g8_c b f hb9 (m2 b f).2.1 q2 (askT 6 6) (by decide))
      (fun _ => jIo (by decide)) (fun k => roget_c b f _ hb9 (jGF (fun a h => jKd h) (jA0 q2) k)) (fun h => t1 (jNk h))
      (fun h5 hl => by
        have e := jJJ (get := jC7 b f) h5
        have := t2 (by rw [e]; exact hl)
        unfold note3 at this
        rw [e] at this
        exact this)
      (by rw [e3]; exact rright_3 (m2 b f).1.n 0 z6 [] [] (lstB (jC7 b f) (rd8 b (m2 b f).2.1 f (askT 6 6)).2.1 (rd8 b (m2 b f).2.1 f (askT 6 6)).1.n.toNat).1 none_s z1 z2 (jGW (by decide) (by decide)))
  have e1 : (m1 b f).1.n = 1 := by omega
  have q3 : 0 ≤ (m3 b f).2.1 := jA0 q2
  have q4 : 0 ≤ (m4 b f).2.1 := jLY q3
  obtain ⟨t1, t2, t3, t4⟩ := nt_1t hf hb h1 h2 e1
  exact rnote_1 (Y1 := m1 b f) (Y2 := m2 b f) (Y3 := m3 b f) (Y4 := m4 b f) (Y5 := rd8 b (m4 b f).2.1 f (askT 6 40)) (gt := fun a => rd8 b a f (askT 3 0)) c1 c2 h1 h2 e1 hb (g8_c b f hb9 (m2 b f).2.1 q2 (askT 6 2) (by decide)) (jMG b f hb9 _) (g8_c b f hb9 (m4 b f).2.1 q4 (askT 6 40) (by decide))
    (fun _ => jIo (by decide)) (fun k => g8_c b f hb9 (lstB (jG5 b f) (rd8 b (m4 b f).2.1 f (askT 6 40)).2.1 k).2.1 (jGF (get := jG5 b f) (fun a h => jA0 h) (jA0 q4) k) (askT 3 0) (by decide))
    (fun h => by
      cases h3 : (m3 b f).2.2 with
      | false => exact t1 h3
      | true =>
      cases h4 : (m4 b f).2.2 with
      | false => exact t2 h3 h4
      | true =>
        refine t3 h3 h4 (jNk ?_)
        rcases h with h | h | h
        · rw [h3] at h; cases h
        · rw [h4] at h; cases h
        exact h)
    (fun h3 h4 h5 hl => by
      have e := jJJ (get := jG5 b f) h5
      have := t4 h3 h4 (by rw [e]; exact hl)
      unfold note1 at this
      rw [e] at this
      exact this)
    (by rw [e1]; exact rright_1 (m2 b f).1.n (m3 b f).1.n (v6 (m4 b f).1.v) (lstB (jG5 b f) (rd8 b (m4 b f).2.1 f (askT 6 40)).2.1 (rd8 b (m4 b f).2.1 f (askT 6 40)).1.n.toNat).1 [] [] none_s (jGW (by decide) (by decide)) z2 z3)
theorem jF9 (h : okNt (newR b f) = true) : AC Tryz.prog 67 [.sl (byA b), .sc (.int .i64 f)] (fun r => r = .s (.tu [.ag [AI ((jBD (newR b f))).kind, AI ((jBD (newR b f))).from_, AI ((jBD (newR b f))).fmt, AI ((jBD (newR b f))).have_.a, AI ((jBD (newR b f))).have_.b, AI ((jBD (newR b f))).have_.c, AI ((jBD (newR b f))).have_.d, AI ((jBD (newR b f))).have_.e, AI ((jBD (newR b f))).have_.f, .sl (((jBD (newR b f))).tags.map TagD.cs), .sl (((jBD (newR b f))).edges.map EdgeD.cs), .sl (((jBD (newR b f))).ops.map OpD.cs)], AB true])) := (jM9 hf hb).mono fun r hr => by
  rcases hr with ⟨_, e⟩ | ⟨e, _⟩
  · exact e
  rw [h] at e; cases e
theorem jGf (h : okNt (newR b f) = false) : AC Tryz.prog 67 [.sl (byA b), .sc (.int .i64 f)] (fun r => ∃ c0 c1 c2 c3 c4 c5 c6 c7 c8 c9 c10 c11, r = .s (.tu [.ag [c0, c1, c2, c3, c4, c5, c6, c7, c8, c9, c10, c11], AB false])) := (jM9 hf hb).mono fun r hr => by
  rcases hr with ⟨e, _⟩ | ⟨_, e⟩
  · rw [h] at e; cases e
  exact e
end
set_option maxRecDepth 100000
def jHm (inner : List UInt8) : NoteD × Int × Int := match inner with
  | [] => (zN, 0, 5)
  | c :: rest => if okF (c.toNat : Int) then jA1 (newR rest (c.toNat : Int)) (c.toNat : Int) else (zN, 0, 5)
theorem jKX {c : UInt8} {rest : List UInt8} (h : okF (c.toNat : Int) = true) : jHm (c :: rest) = jA1 (newR rest (c.toNat : Int)) (c.toNat : Int) := if_pos h
theorem jKJ {c : UInt8} {rest : List UInt8} (h : okF (c.toNat : Int) = false) : jHm (c :: rest) = (zN, 0, 5) := if_neg (by rw [h]; decide)
def jED (t : Nat → Nat) (l : List UInt8) : NoteD × Int × Int := match fget t l with
  | none => (zN, 0, 8)
  | some inner => if 8 + inner.length = l.length then jHm inner else (zN, 0, 8)
abbrev openV (p : NoteD × Int × Int) : AV := .tu [p.1.av, AI p.2.1, AI p.2.2]
section
variable (t : Nat → Nat) (ht : ∀ i, i < 256 → t i < 4294967296) (l : List UInt8) (hl : l.length ≤ 60000)
include ht hl
theorem opens_c : AC Tryz.prog 15 [.sc (tabV t), .sl (byA l)] (fun r => r = .s (openV (jED t l))) := by
  have hg := fgetc t ht l 0 (Nat.zero_le _) (by omega)
  cases e : fget t l with
  | none =>
    rw [show jED t l = (zN, 0, 8) by unfold jED; rw [e]]
    exact jJd t l [] 0 8 (by omega) (hg.mono fun r hr => by rw [hr]; unfold gB gE gC; rw [List.drop_zero, e] <;> rfl)
  | some inner =>
    have hE : gE t l 0 = ((8 + inner.length : Nat) : Int) := by unfold gE; rw [List.drop_zero, e] <;> simp
    by_cases h8 : 8 + inner.length = l.length
    · rw [show jED t l = jHm inner by unfold jED; rw [e]; exact if_pos h8]
      have hg' : AC Tryz.prog 55 [.sl (byA l), .sc (.int .i64 0), .sc (tabV t)] (fun r => r = .s (.tu [.sl (byA inner), .sc (.int .i64 (l.length : Int)), .sc (.int .i64 0)])) := hg.mono fun r hr => by rw [hr, hE, h8]; unfold gB gC; rw [List.drop_zero, e] <;> rfl
      cases inner with
      | nil => exact open_nil t l hg'
      | cons c rest =>
        have hr : rest.length ≤ 60000 := by simp at h8; omega
        cases hok : okF (c.toNat : Int) with
        | true => rw [jKX hok]; exact open_ok t l c rest hr hok hg'
        | false => rw [jKJ hok]; exact jLK t l c rest hok hg'
    rw [show jED t l = (zN, 0, 8) by unfold jED; rw [e]; exact if_neg h8]
    exact jJd t l inner ((8 + inner.length : Nat) : Int) 0 (by omega) (hg.mono fun r hr => by rw [hr, hE]; unfold gB gC; rw [List.drop_zero, e] <;> rfl)
end
end Go.Proofs.YtlapcfnmmpbeeaaGreat
