/- A part of a proof. -/
import Derived.Test.YtlapcfnmmpbeeaaGreatPO43
set_option linter.unusedSimpArgs false
set_option linter.unusedVariables false
namespace Go.Proofs.YtlapcfnmmpbeeaaGreat
set_option maxRecDepth 100000
set_option maxRecDepth 100000
open Go.RowKit
def RNT (ok : Bool) (n : NoteD) (r : RS) : Prop := (ok = true ∧ r = .s (.tu [.ag [AI (n).kind, AI (n).from_, AI (n).fmt, AI (n).have_.a, AI (n).have_.b, AI (n).have_.c, AI (n).have_.d, AI (n).have_.e, AI (n).have_.f, .sl ((n).tags.map TagD.cs), .sl ((n).edges.map EdgeD.cs), .sl ((n).ops.map OpD.cs)], AB true])) ∨ (ok = false ∧ ∃ c0 c1 c2 c3 c4 c5 c6 c7 c8 c9 c10 c11, r = .s (.tu [.ag [c0, c1, c2, c3, c4, c5, c6, c7, c8, c9, c10, c11], AB false]))
theorem jEC {ok : Bool} {n : NoteD} {c0 c1 c2 c3 c4 c5 c6 c7 c8 c9 c10 c11 : AV} (h : ok = false) : RNT ok n (.s (.tu [.ag [c0, c1, c2, c3, c4, c5, c6, c7, c8, c9, c10, c11], AB false])) := .inr ⟨h, _, _, _, _, _, _, _, _, _, _, _, _, rfl⟩
theorem jIr {ok v : Bool} {n m : NoteD} (h : ok = v) (hn : n = m) : RNT ok n (.s (.tu [.ag [AI (m).kind, AI (m).from_, AI (m).fmt, AI (m).have_.a, AI (m).have_.b, AI (m).have_.c, AI (m).have_.d, AI (m).have_.e, AI (m).have_.f, .sl ((m).tags.map TagD.cs), .sl ((m).edges.map EdgeD.cs), .sl ((m).ops.map OpD.cs)], AB v])) := by
  subst h; subst hn
  cases ok with
  | true => exact .inl ⟨rfl, rfl⟩
  | false => exact jEC rfl
theorem jH3 {Y1 Y2 Y4 : ThingD × Int × Bool} {ok v : Bool} {n : NoteD} {e w : Bool} (hk : Y1.1.n = 4) (e5 : ok = (e && w)) (e6 : n = ⟨4, Y2.1.n, 0, v6 Y4.1.v, [], [], []⟩) (hv : v = (e && w)) : RNT ok n (.s (.tu [.ag [AI Y1.1.n, AI Y2.1.n, AI 0, AI Y4.1.v.a, AI Y4.1.v.b, AI Y4.1.v.c, AI Y4.1.v.d, AI Y4.1.v.e, AI Y4.1.v.f, .sl [], .sl [], .sl []], AB v])) := by
  rw [hk]; exact jIr (e5.trans hv.symm) e6
theorem jIb {Y1 Y2 : ThingD × Int × Bool} {ok v : Bool} {n : NoteD} {e w : Bool} (hk : Y1.1.n = 0) (e5 : ok = (e && w)) (e6 : n = ⟨0, Y2.1.n, 0, z6, [], [], []⟩) (hv : v = (e && w)) : RNT ok n (.s (.tu [.ag [AI Y1.1.n, AI Y2.1.n, AI 0, AI 0, AI 0, AI 0, AI 0, AI 0, AI 0, .sl [], .sl [], .sl []], AB v])) := by
  rw [hk]; exact jIr (e5.trans hv.symm) e6
set_option maxHeartbeats 2000000 in
theorem jJ7 {b : List UInt8} {f : Int} {Y1 Y2 : ThingD × Int × Bool} {ok : Bool} {n : NoteD}
    (c1 : AC Tryz.prog 118 [.sl (byA b), .sc (.int .i64 0), .sc (.int .i64 f), (askT 6 4).av] (fun r => r = .s (.tu [.ag [AI (Y1.1).kind, AI (Y1.1).n, AS (Y1.1).s, AB (Y1.1).f, AI (Y1.1).t.rep, AI (Y1.1).t.n, AI (Y1.1).v.a, AI (Y1.1).v.b, AI (Y1.1).v.c, AI (Y1.1).v.d, AI (Y1.1).v.e, AI (Y1.1).v.f, AI (Y1.1).r.scope, AS (Y1.1).r.group, AS (Y1.1).r.name, AI (Y1.1).most], AI Y1.2.1, AB Y1.2.2])))
    (c2 : AC Tryz.prog 118 [.sl (byA b), .sc (.int .i64 Y1.2.1), .sc (.int .i64 f), (askT 6 6).av] (fun r => r = .s (.tu [.ag [AI (Y2.1).kind, AI (Y2.1).n, AS (Y2.1).s, AB (Y2.1).f, AI (Y2.1).t.rep, AI (Y2.1).t.n, AI (Y2.1).v.a, AI (Y2.1).v.b, AI (Y2.1).v.c, AI (Y2.1).v.d, AI (Y2.1).v.e, AI (Y2.1).v.f, AI (Y2.1).r.scope, AS (Y2.1).r.group, AS (Y2.1).r.name, AI (Y2.1).most], AI Y2.2.1, AB Y2.2.2])))
    (h : Y1.2.2 = false ∨ Y2.2.2 = false) (ho : ok = false) : AC Tryz.prog 67 [.sl (byA b), .sc (.int .i64 f)] (RNT ok n) := by
  refine AC.of' 216 16 Tryz.func67 rfl ?_; change AW _ _ _ _ [TK.mk 0 .off, TK.mk 0 .off, TK.mk 0 .off, TK.mk 0 .off, TK.mk 0 .off, TK.mk 0 .off, TK.mk 0 .off, TK.mk 0 .off, TK.mk 0 .off, TK.mk 0 .off, TK.mk 0 .off, TK.mk 0 .off, TK.mk 0 .off, TK.mk 0 .off, TK.mk 0 .off, TK.mk 0 .off]; refine AW.g (AL.oq (AOpB.op (oA 0 jA2 ?_))); refine AL.n ?_; refine AL.ra ?_; refine AL.nil (AW.g ?_); (iterate 2 refine AL.rm ?_); refine AL.r (qB jAO jAq) ?_; refine AL.cl (c1) ?_; refine AL.n ?_; refine AL.rm ?_; refine AL.r qe ?_; refine AL.r qe ?_; refine AL.r qe ?_; refine AL.oq (AOpB.op (oA 1 jAq ?_)); refine AL.n ?_; refine AL.oq (oS jAA ?_); refine AL.n ?_; (iterate 2 refine AL.ra ?_); refine AL.nil (AW.seq (AW.g (AL.rm ?_))); refine AL.r qu ?_; refine AL.nil (AW.cd rfl (fun h40 => ?_) (fun h40 => ?_))
  ·refine AW.g (AL.r (qB jCh jA2) ?_); refine AL.oq (oS jAR ?_); refine AL.n ?_; refine AL.ra ?_; refine AL.nil (AW.ret ?_); refine r2 jAB ?_; exact jEC ho
  refine AW.skip (AW.g ?_); (iterate 3 refine AL.rm ?_); refine AL.r (qB jAO jAq) ?_; refine AL.cl (c2) ?_; refine AL.n ?_; refine AL.rm ?_; refine AL.r qe ?_; refine AL.r qe ?_; refine AL.r qe ?_; refine AL.oq (AOpB.op (oA 2 jAq ?_)); refine AL.n ?_; refine AL.oq (oS jAA ?_); refine AL.n ?_; (iterate 2 refine AL.ra ?_); refine AL.nil (AW.seq (AW.g (AL.rm ?_))); refine AL.r qu ?_; refine AL.nil (AW.cd rfl (fun h52 => ?_) (fun h52 => ?_))
  ·refine AW.g (AL.r (qB jCh jA2) ?_); refine AL.oq (oS jAR ?_); refine AL.n ?_; refine AL.ra ?_; refine AL.nil (AW.ret ?_); refine r2 jAB ?_; exact jEC ho
  (exfalso; rcases h with h | h <;> simp_all)
section
variable {b : List UInt8} {f : Int} {Y1 Y2 : ThingD × Int × Bool}
    (c1 : AC Tryz.prog 118 [.sl (byA b), .sc (.int .i64 0), .sc (.int .i64 f), (askT 6 4).av] (fun r => r = .s (.tu [.ag [AI (Y1.1).kind, AI (Y1.1).n, AS (Y1.1).s, AB (Y1.1).f, AI (Y1.1).t.rep, AI (Y1.1).t.n, AI (Y1.1).v.a, AI (Y1.1).v.b, AI (Y1.1).v.c, AI (Y1.1).v.d, AI (Y1.1).v.e, AI (Y1.1).v.f, AI (Y1.1).r.scope, AS (Y1.1).r.group, AS (Y1.1).r.name, AI (Y1.1).most], AI Y1.2.1, AB Y1.2.2])))
    (c2 : AC Tryz.prog 118 [.sl (byA b), .sc (.int .i64 Y1.2.1), .sc (.int .i64 f), (askT 6 6).av] (fun r => r = .s (.tu [.ag [AI (Y2.1).kind, AI (Y2.1).n, AS (Y2.1).s, AB (Y2.1).f, AI (Y2.1).t.rep, AI (Y2.1).t.n, AI (Y2.1).v.a, AI (Y2.1).v.b, AI (Y2.1).v.c, AI (Y2.1).v.d, AI (Y2.1).v.e, AI (Y2.1).v.f, AI (Y2.1).r.scope, AS (Y2.1).r.group, AS (Y2.1).r.name, AI (Y2.1).most], AI Y2.2.1, AB Y2.2.2])))
    (h1 : Y1.2.2 = true) (h2 : Y2.2.2 = true)
include c1 c2 h1 h2
set_option maxHeartbeats 2000000 in
theorem rnote_4 {Y4 : ThingD × Int × Bool} {ok : Bool} {n : NoteD} (hk : Y1.1.n = 4) (hb : b.length ≤ 60000)
    (c4 : AC Tryz.prog 118 [.sl (byA b), .sc (.int .i64 Y2.2.1), .sc (.int .i64 f), (askT 4 0).av] (fun r => r = .s (.tu [.ag [AI (Y4.1).kind, AI (Y4.1).n, AS (Y4.1).s, AB (Y4.1).f, AI (Y4.1).t.rep, AI (Y4.1).t.n, AI (Y4.1).v.a, AI (Y4.1).v.b, AI (Y4.1).v.c, AI (Y4.1).v.d, AI (Y4.1).v.e, AI (Y4.1).v.f, AI (Y4.1).r.scope, AS (Y4.1).r.group, AS (Y4.1).r.name, AI (Y4.1).most], AI Y4.2.1, AB Y4.2.2])))
    (hno : Y4.2.2 = false → ok = false) (hyes : Y4.2.2 = true → ok = (decide (Y4.2.1 = b.length) && jBn ⟨4, Y2.1.n, 0, v6 Y4.1.v, [], [], []⟩) ∧ n = ⟨4, Y2.1.n, 0, v6 Y4.1.v, [], [], []⟩)
    (cR : AC Tryz.prog 9 [.ag [AI Y1.1.n, AI Y2.1.n, AI 0, AI Y4.1.v.a, AI Y4.1.v.b, AI Y4.1.v.c, AI Y4.1.v.d, AI Y4.1.v.e, AI Y4.1.v.f, .sl [], .sl [], .sl []]] (fun r => r = .s (AB (jBn ⟨4, Y2.1.n, 0, v6 Y4.1.v, [], [], []⟩)))) :
    AC Tryz.prog 67 [.sl (byA b), .sc (.int .i64 f)] (RNT ok n) := by
  refine AC.of' 216 16 Tryz.func67 rfl ?_; change AW _ _ _ _ [TK.mk 0 .off, TK.mk 0 .off, TK.mk 0 .off, TK.mk 0 .off, TK.mk 0 .off, TK.mk 0 .off, TK.mk 0 .off, TK.mk 0 .off, TK.mk 0 .off, TK.mk 0 .off, TK.mk 0 .off, TK.mk 0 .off, TK.mk 0 .off, TK.mk 0 .off, TK.mk 0 .off, TK.mk 0 .off]; refine AW.g (AL.oq (AOpB.op (oA 0 jA2 ?_))); refine AL.n ?_; refine AL.ra ?_; refine AL.nil (AW.g ?_); (iterate 2 refine AL.rm ?_); refine AL.r (qB jAO jAq) ?_; refine AL.cl (c1) ?_; refine AL.n ?_; refine AL.rm ?_; refine AL.r qe ?_; refine AL.r qe ?_; refine AL.r qe ?_; refine AL.oq (AOpB.op (oA 1 jAq ?_)); refine AL.n ?_; refine AL.oq (oS jAA ?_); refine AL.n ?_; (iterate 2 refine AL.ra ?_); refine AL.nil (AW.seq (AW.g (AL.rm ?_))); refine AL.r qu ?_; refine AL.nil (AW.cd rfl (fun h40 => ?_) (fun h40 => ?_))
  ·(exfalso; simp_all)
  refine AW.skip (AW.g ?_); (iterate 3 refine AL.rm ?_); refine AL.r (qB jAO jAq) ?_; refine AL.cl (c2) ?_; refine AL.n ?_; refine AL.rm ?_; refine AL.r qe ?_; refine AL.r qe ?_; refine AL.r qe ?_; refine AL.oq (AOpB.op (oA 2 jAq ?_)); refine AL.n ?_; refine AL.oq (oS jAA ?_); refine AL.n ?_; (iterate 2 refine AL.ra ?_); refine AL.nil (AW.seq (AW.g (AL.rm ?_))); refine AL.r qu ?_; refine AL.nil (AW.cd rfl (fun h52 => ?_) (fun h52 => ?_))
  ·(exfalso; simp_all)
  refine AW.skip (AW.g ?_); (iterate 2 (refine AL.r (qa jA8) ?_; refine AL.r (ql ag_2) ?_)); refine AL.r (qB jCh jA2) ?_; refine AL.oq (AOpB.op (oA 3 jA2 ?_)); refine AL.n ?_; refine AL.oq (oS jAR ?_); refine AL.n ?_; refine AL.nil (AW.seq (AW.g (AL.r (qa jAo) ?_))); refine AL.r (ql ag_3) ?_; refine AL.r qb ?_; refine AL.nil (AW.cd rfl (fun h61 => ?_) (fun h61 => ?_))
  ·(exfalso; omega)
  refine AW.skip (AW.seq (AW.g (AL.r (qa jAo) ?_))); refine AL.r (ql ag_3) ?_; refine AL.r qb ?_; refine AL.rm ?_; refine AL.fk (d := 81) rfl (fun h81 => ?_) (fun h81 => ?_)
  ·(exfalso; omega)
  refine AL.n ?_; refine AL.ro (qa jAo) ?_; refine AL.ro (ql ag_3) ?_; refine AL.ro qb ?_; refine AL.r qf ?_; refine AL.nil (AW.cd rfl (fun h85 => ?_) (fun h85 => ?_))
  ·refine AW.g ?_; (iterate 3 refine AL.rm ?_); refine AL.r (qB jAO jAq) ?_; refine AL.cl (c4) ?_; refine AL.n ?_; refine AL.rm ?_; refine AL.r qe ?_; refine AL.r qe ?_; refine AL.r qe ?_; refine AL.oq (AOpB.op (oA 5 jAq ?_)); refine AL.n ?_; refine AL.oq (oS jAA ?_); refine AL.n ?_; (iterate 2 refine AL.ra ?_); refine AL.nil (AW.seq (AW.g (AL.rm ?_))); refine AL.r qu ?_; refine AL.nil (AW.cd rfl (fun h96 => ?_) (fun h96 => ?_))
   ·refine AW.g (AL.r (qN jAB) ?_); refine AL.oq (oS jAR ?_); refine AL.n ?_; refine AL.ra ?_; refine AL.nil (AW.ret ?_); refine r2 jAB ?_; exact jEC (hno (by assumption))
   refine AW.skip (AW.g (AL.r (qa jD5) ?_)); refine AL.r (qN jDW) ?_; refine AL.r (qa jCf) ?_; refine AL.oq (oS jGN ?_); refine AL.n ?_; refine AL.nil (AW.region (AL.bxn 3 [AI Y1.1.n, AI Y2.1.n, AI 0, AI Y4.1.v.a, AI Y4.1.v.b, AI Y4.1.v.c, AI Y4.1.v.d, AI Y4.1.v.e, AI Y4.1.v.f, .sc (.slice none 0 0), .sc (.slice none 0 0), .sc (.slice none 0 0)] rfl (by kernel_rfl) ?_)); refine AL.no ?_; refine AL.rm ?_; refine AL.nilbx 3 9 6 34 2 rfl rfl rfl (by decide) ?_; refine AL.no ?_; refine AL.nilbx 3 10 7 44 20 rfl rfl rfl (by decide) ?_; refine AL.no ?_; refine AL.nilbx 3 11 10 48 15 rfl rfl rfl (by decide) ?_; refine AL.no ?_; refine AL.settlebx 3 9 rfl rfl rfl (by first | rfl | exact jBe _ _ _ _) ?_; refine AL.no ?_; refine AL.settlebx 3 10 rfl rfl rfl (by first | rfl | exact jBe _ _ _ _) ?_; refine AL.no ?_; refine AL.settlebx 3 11 rfl rfl rfl (by first | rfl | exact jBe _ _ _ _) ?_; refine AL.no ?_; refine AL.ra ?_; refine AL.nil (AW.seq (AW.g (AL.r (qa jAo) ?_))); refine AL.r (ql ag_3) ?_; refine AL.r qb ?_; refine AL.rm ?_; refine AL.fk (d := 105) rfl (fun h105 => ?_) (fun h105 => ?_)
   ·(exfalso; omega)
   refine AL.n ?_; refine AL.ro (qa jAo) ?_; refine AL.ro (ql ag_3) ?_; refine AL.ro qb ?_; refine AL.r qf ?_; refine AL.rm ?_; refine AL.fk (d := 110) rfl (fun h110 => ?_) (fun h110 => ?_)
   ·(exfalso; omega)
   refine AL.n ?_; refine AL.ro (qa jAo) ?_; refine AL.ro (ql ag_3) ?_; refine AL.ro qb ?_; refine AL.r qf ?_; refine AL.nil (AW.cd rfl (fun h114 => ?_) (fun h114 => ?_))
   ·(exfalso; omega)
   refine AW.skip (AW.seq (AW.drawA (by kernel_rfl) ?_)); refine ADA.r 1 rfl (ARdP.a (jAr rfl rfl)) rfl ?_; refine ADA.r 2 rfl (ARdP.a (jAr rfl rfl)) rfl ?_; refine ADA.r 3 rfl (ARdP.a (jEj rfl jAC rfl)) rfl ?_; refine ADA.r 4 rfl (ARdP.a (jEN rfl rfl rfl (fun _ => rfl))) rfl ?_; refine ADA.r 5 rfl (ARdP.a (jAr rfl rfl)) rfl ?_; refine ADA.fk (d := 214) rfl (fun h214 => ?_) (fun h214 => ?_)
   ·refine ADA.n ?_; refine ADA.b ?_; refine ADB.all (is := [0, 6]) (by kernel_rfl) (by simp) ?_; intro i hi; simp only [List.mem_cons, List.not_mem_nil, or_false] at hi
    rcases hi with rfl | rfl
    ·refine ⟨_, rfl, rfl, AOpB.op (ARd.opB (qN jAB) ?_)⟩; refine ADB.n ?_; refine ADB.mv 6 rfl (AOpB.op (ARd.opB (qN jAB) ?_)); refine ADB.n ?_; refine ADB.mv 7 rfl (AOpB.op (jAb (cR) rfl (by kernel_rfl) rfl (none) ?_)); rintro r rfl; refine ADB.n ?_; refine ADB.r 8 rfl (jBr rfl rfl rfl) rfl ?_; refine ADB.mv 9 rfl (oS jAR ?_); refine ADB.n ?_; refine ADB.r 10 rfl (jAk rfl rfl) rfl ?_; refine ADB.done (by kernel_rfl) ?_; change AW _ _ _ _ _; refine AW.ret ?_; refine r2 jAB ?_
     (have e4 : Y4.2.2 = true := (by simp_all)); obtain ⟨e5, e6⟩ := hyes e4; exact jH3 hk e5 e6 (by simp_all)
    refine ⟨_, rfl, ⟨_, _, rfl, rfl, rfl⟩, AOpB.op (ARd.opB (qN jAB) ?_)⟩; refine ADB.n ?_; refine ADB.all (is := [0, 7]) (by kernel_rfl) (by simp) ?_; intro i hi; simp only [List.mem_cons, List.not_mem_nil, or_false] at hi
    rcases hi with rfl | rfl
    ·refine ⟨_, rfl, rfl, AOpB.op (ARd.opB (qN jAB) ?_)⟩; refine ADB.n ?_; refine ADB.mv 7 rfl (AOpB.op (jAb (cR) rfl (by kernel_rfl) rfl (none) ?_)); rintro r rfl; refine ADB.n ?_; refine ADB.r 8 rfl (jBr rfl rfl rfl) rfl ?_; refine ADB.mv 9 rfl (oS jAR ?_); refine ADB.n ?_; refine ADB.r 10 rfl (jAk rfl rfl) rfl ?_; refine ADB.done (by kernel_rfl) ?_; change AW _ _ _ _ _; refine AW.ret ?_; refine r2 jAB ?_
     (have e4 : Y4.2.2 = true := (by simp_all)); obtain ⟨e5, e6⟩ := hyes e4; exact jH3 hk e5 e6 (by simp_all)
    refine ⟨_, rfl, ⟨_, _, rfl, rfl, rfl⟩, AOpB.op (jAb (cR) rfl (by kernel_rfl) rfl (none) ?_)⟩; rintro r rfl; refine ADB.n ?_; refine ADB.r 8 rfl (jBr rfl rfl rfl) rfl ?_; refine ADB.mv 0 rfl (AOpB.op (ARd.opB (qN jAB) ?_)); refine ADB.n ?_; refine ADB.mv 9 rfl (oS jAR ?_); refine ADB.n ?_; refine ADB.r 10 rfl (jAk rfl rfl) rfl ?_; refine ADB.done (by kernel_rfl) ?_; change AW _ _ _ _ _; refine AW.ret ?_; refine r2 jAB ?_
    (have e4 : Y4.2.2 = true := (by simp_all)); obtain ⟨e5, e6⟩ := hyes e4; exact jH3 hk e5 e6 (by simp_all)
   refine ADA.n ?_; refine ADA.s 6 rfl ⟨_, _, rfl, rfl, rfl⟩ ?_; refine ADA.s 7 rfl ⟨_, _, rfl, rfl, rfl⟩ ?_; refine ADA.r 8 rfl (ARdP.a (jDi rfl rfl rfl)) rfl ?_; refine ADA.b ?_; refine ADB.mv 0 rfl (AOpB.op (ARd.opB (qN jAB) ?_)); refine ADB.n ?_; refine ADB.mv 9 rfl (oS jAR ?_); refine ADB.n ?_; refine ADB.r 10 rfl (jAk rfl rfl) rfl ?_; refine ADB.done (by kernel_rfl) ?_; change AW _ _ _ _ _; refine AW.ret ?_; refine r2 jAB ?_
   (have e4 : Y4.2.2 = true := (by simp_all)); obtain ⟨e5, e6⟩ := hyes e4; exact jH3 hk e5 e6 (by simp_all)
  (exfalso; omega)
set_option maxHeartbeats 2000000 in
theorem rnote_0 {ok : Bool} {n : NoteD} (hk : Y1.1.n = 0) (hb : b.length ≤ 60000)
    (hyes : ok = (decide (Y2.2.1 = b.length) && jBn ⟨0, Y2.1.n, 0, z6, [], [], []⟩) ∧ n = ⟨0, Y2.1.n, 0, z6, [], [], []⟩)
    (cR : AC Tryz.prog 9 [.ag [AI Y1.1.n, AI Y2.1.n, AI 0, AI 0, AI 0, AI 0, AI 0, AI 0, AI 0, .sl [], .sl [], .sl []]] (fun r => r = .s (AB (jBn ⟨0, Y2.1.n, 0, z6, [], [], []⟩)))) :
    AC Tryz.prog 67 [.sl (byA b), .sc (.int .i64 f)] (RNT ok n) := by
  refine AC.of' 216 16 Tryz.func67 rfl ?_; change AW _ _ _ _ [TK.mk 0 .off, TK.mk 0 .off, TK.mk 0 .off, TK.mk 0 .off, TK.mk 0 .off, TK.mk 0 .off, TK.mk 0 .off, TK.mk 0 .off, TK.mk 0 .off, TK.mk 0 .off, TK.mk 0 .off, TK.mk 0 .off, TK.mk 0 .off, TK.mk 0 .off, TK.mk 0 .off, TK.mk 0 .off]; refine AW.g (AL.oq (AOpB.op (oA 0 jA2 ?_))); refine AL.n ?_; refine AL.ra ?_; refine AL.nil (AW.g ?_); (iterate 2 refine AL.rm ?_); refine AL.r (qB jAO jAq) ?_; refine AL.cl (c1) ?_; refine AL.n ?_; refine AL.rm ?_; refine AL.r qe ?_; refine AL.r qe ?_; refine AL.r qe ?_; refine AL.oq (AOpB.op (oA 1 jAq ?_)); refine AL.n ?_; refine AL.oq (oS jAA ?_); refine AL.n ?_; (iterate 2 refine AL.ra ?_); refine AL.nil (AW.seq (AW.g (AL.rm ?_))); refine AL.r qu ?_; refine AL.nil (AW.cd rfl (fun h40 => ?_) (fun h40 => ?_))
  ·(exfalso; simp_all)
  refine AW.skip (AW.g ?_); (iterate 3 refine AL.rm ?_); refine AL.r (qB jAO jAq) ?_; refine AL.cl (c2) ?_; refine AL.n ?_; refine AL.rm ?_; refine AL.r qe ?_; refine AL.r qe ?_; refine AL.r qe ?_; refine AL.oq (AOpB.op (oA 2 jAq ?_)); refine AL.n ?_; refine AL.oq (oS jAA ?_); refine AL.n ?_; (iterate 2 refine AL.ra ?_); refine AL.nil (AW.seq (AW.g (AL.rm ?_))); refine AL.r qu ?_; refine AL.nil (AW.cd rfl (fun h52 => ?_) (fun h52 => ?_))
  ·(exfalso; simp_all)
  refine AW.skip (AW.g ?_); (iterate 2 (refine AL.r (qa jA8) ?_; refine AL.r (ql ag_2) ?_)); refine AL.r (qB jCh jA2) ?_; refine AL.oq (AOpB.op (oA 3 jA2 ?_)); refine AL.n ?_; refine AL.oq (oS jAR ?_); refine AL.n ?_; refine AL.nil (AW.seq (AW.g (AL.bxn 3 [AI Y1.1.n, AI Y2.1.n, AI 0, AI 0, AI 0, AI 0, AI 0, AI 0, AI 0, .sc (.slice none 0 0), .sc (.slice none 0 0), .sc (.slice none 0 0)] rfl (by kernel_rfl) ?_))); refine AL.no ?_; refine AL.r (qa jAo) ?_; refine AL.nilbx 3 9 6 34 2 rfl rfl rfl (by decide) ?_; refine AL.no ?_; refine AL.nilbx 3 10 7 44 20 rfl rfl rfl (by decide) ?_; refine AL.no ?_; refine AL.nilbx 3 11 10 48 15 rfl rfl rfl (by decide) ?_; refine AL.no ?_; refine AL.settlebx 3 9 rfl rfl rfl (by first | rfl | exact jBe _ _ _ _) ?_; refine AL.no ?_; refine AL.settlebx 3 10 rfl rfl rfl (by first | rfl | exact jBe _ _ _ _) ?_; refine AL.no ?_; refine AL.settlebx 3 11 rfl rfl rfl (by first | rfl | exact jBe _ _ _ _) ?_; refine AL.no ?_; refine AL.r (ql ag_3) ?_; refine AL.r qb ?_; refine AL.nil (AW.cd rfl (fun h61 => ?_) (fun h61 => ?_))
  ·(exfalso; omega)
  refine AW.skip (AW.seq (AW.g (AL.r (qa jAo) ?_))); refine AL.r (ql ag_3) ?_; refine AL.r qb ?_; refine AL.rm ?_; refine AL.fk (d := 81) rfl (fun h81 => ?_) (fun h81 => ?_)
  ·(exfalso; omega)
  refine AL.n ?_; refine AL.ro (qa jAo) ?_; refine AL.ro (ql ag_3) ?_; refine AL.ro qb ?_; refine AL.r qf ?_; refine AL.nil (AW.cd rfl (fun h85 => ?_) (fun h85 => ?_))
  ·(exfalso; omega)
  refine AW.skip (AW.seq (AW.g (AL.r (qa jAo) ?_))); refine AL.r (ql ag_3) ?_; refine AL.r qb ?_; refine AL.rm ?_; refine AL.fk (d := 105) rfl (fun h105 => ?_) (fun h105 => ?_)
  ·(exfalso; omega)
  refine AL.n ?_; refine AL.ro (qa jAo) ?_; refine AL.ro (ql ag_3) ?_; refine AL.ro qb ?_; refine AL.r qf ?_; refine AL.rm ?_; refine AL.fk (d := 110) rfl (fun h110 => ?_) (fun h110 => ?_)
  ·(exfalso; omega)
  refine AL.n ?_; refine AL.ro (qa jAo) ?_; refine AL.ro (ql ag_3) ?_; refine AL.ro qb ?_; refine AL.r qf ?_; refine AL.nil (AW.cd rfl (fun h114 => ?_) (fun h114 => ?_))
  ·(exfalso; omega)
  refine AW.skip (AW.seq (AW.drawA (by kernel_rfl) ?_)); refine ADA.r 1 rfl (ARdP.a (jAr rfl rfl)) rfl ?_; refine ADA.r 2 rfl (ARdP.a (jAr rfl rfl)) rfl ?_; refine ADA.r 3 rfl (ARdP.a (jEj rfl jAC rfl)) rfl ?_; refine ADA.r 4 rfl (ARdP.a (jEN rfl rfl rfl (fun _ => rfl))) rfl ?_; refine ADA.r 5 rfl (ARdP.a (jAr rfl rfl)) rfl ?_; refine ADA.fk (d := 214) rfl (fun h214 => ?_) (fun h214 => ?_)
  ·refine ADA.n ?_; refine ADA.b ?_; refine ADB.all (is := [0, 6]) (by kernel_rfl) (by simp) ?_; intro i hi; simp only [List.mem_cons, List.not_mem_nil, or_false] at hi
   rcases hi with rfl | rfl
   ·refine ⟨_, rfl, rfl, AOpB.op (ARd.opB (qN jAB) ?_)⟩; refine ADB.n ?_; refine ADB.mv 6 rfl (AOpB.op (ARd.opB (qN jAB) ?_)); refine ADB.n ?_; refine ADB.mv 7 rfl (AOpB.op (jAb (cR) rfl (by kernel_rfl) rfl (none) ?_)); rintro r rfl; refine ADB.n ?_; refine ADB.r 8 rfl (jBr rfl rfl rfl) rfl ?_; refine ADB.mv 9 rfl (oS jAR ?_); refine ADB.n ?_; refine ADB.r 10 rfl (jAk rfl rfl) rfl ?_; refine ADB.done (by kernel_rfl) ?_; change AW _ _ _ _ _; refine AW.ret ?_; refine r2 jAB ?_; obtain ⟨e5, e6⟩ := hyes; exact jIb hk e5 e6 (by simp_all)
   refine ⟨_, rfl, ⟨_, _, rfl, rfl, rfl⟩, AOpB.op (ARd.opB (qN jAB) ?_)⟩; refine ADB.n ?_; refine ADB.all (is := [0, 7]) (by kernel_rfl) (by simp) ?_; intro i hi; simp only [List.mem_cons, List.not_mem_nil, or_false] at hi
   rcases hi with rfl | rfl
   ·refine ⟨_, rfl, rfl, AOpB.op (ARd.opB (qN jAB) ?_)⟩; refine ADB.n ?_; refine ADB.mv 7 rfl (AOpB.op (jAb (cR) rfl (by kernel_rfl) rfl (none) ?_)); rintro r rfl; refine ADB.n ?_; refine ADB.r 8 rfl (jBr rfl rfl rfl) rfl ?_; refine ADB.mv 9 rfl (oS jAR ?_); refine ADB.n ?_; refine ADB.r 10 rfl (jAk rfl rfl) rfl ?_; refine ADB.done (by kernel_rfl) ?_; change AW _ _ _ _ _; refine AW.ret ?_; refine r2 jAB ?_; obtain ⟨e5, e6⟩ := hyes; exact jIb hk e5 e6 (by simp_all)
   refine ⟨_, rfl, ⟨_, _, rfl, rfl, rfl⟩, AOpB.op (jAb (cR) rfl (by kernel_rfl) rfl (none) ?_)⟩; rintro r rfl; refine ADB.n ?_; refine ADB.r 8 rfl (jBr rfl rfl rfl) rfl ?_; refine ADB.mv 0 rfl (AOpB.op (ARd.opB (qN jAB) ?_)); refine ADB.n ?_; refine ADB.mv 9 rfl (oS jAR ?_); refine ADB.n ?_; refine ADB.r 10 rfl (jAk rfl rfl) rfl ?_; refine ADB.done (by kernel_rfl) ?_; change AW _ _ _ _ _; refine AW.ret ?_; refine r2 jAB ?_; obtain ⟨e5, e6⟩ := hyes; exact jIb hk e5 e6 (by simp_all)
  refine ADA.n ?_; refine ADA.s 6 rfl ⟨_, _, rfl, rfl, rfl⟩ ?_; refine ADA.s 7 rfl ⟨_, _, rfl, rfl, rfl⟩ ?_; refine ADA.r 8 rfl (ARdP.a (jDi rfl rfl rfl)) rfl ?_; refine ADA.b ?_; refine ADB.mv 0 rfl (AOpB.op (ARd.opB (qN jAB) ?_)); refine ADB.n ?_; refine ADB.mv 9 rfl (oS jAR ?_); refine ADB.n ?_; refine ADB.r 10 rfl (jAk rfl rfl) rfl ?_; refine ADB.done (by kernel_rfl) ?_; change AW _ _ _ _ _; refine AW.ret ?_; refine r2 jAB ?_; obtain ⟨e5, e6⟩ := hyes; exact jIb hk e5 e6 (by simp_all)
end
end Go.Proofs.YtlapcfnmmpbeeaaGreat
