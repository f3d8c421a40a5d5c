/- A part of a proof. -/
import Derived.Test.YtlapcfnmmpbeeaaGreatPO34
import Derived.Test.YtlapcfnmmpbeeaaGreatPO35
set_option linter.unusedSimpArgs false
set_option linter.unusedVariables false
namespace Go.Proofs.YtlapcfnmmpbeeaaGreat
set_option maxRecDepth 100000
set_option maxRecDepth 100000
open Go.RowKit
structure NoteD where
  kind : Int
  from_ : Int
  fmt : Int
  have_ : V6D
  tags : List TagD
  edges : List EdgeD
  ops : List OpD
deriving DecidableEq
def NoteD.cs (x : NoteD) : List AV := [AI x.kind, AI x.from_, AI x.fmt, AI x.have_.a, AI x.have_.b, AI x.have_.c, AI x.have_.d, AI x.have_.e, AI x.have_.f, .sl (x.tags.map TagD.cs), .sl (x.edges.map EdgeD.cs), .sl (x.ops.map OpD.cs)]
abbrev NoteD.av (x : NoteD) : AV := .ag x.cs
theorem jLW (a b : NoteD) : a = b ↔ a.kind = b.kind ∧ a.from_ = b.from_ ∧ a.fmt = b.fmt ∧ a.have_ = b.have_ ∧ a.tags = b.tags ∧ a.edges = b.edges ∧ a.ops = b.ops := by cases a; cases b; simp
theorem nl13 {a b : Bool} (h : a = b := by rw [Bool.eq_iff_iff]; simp_all [jLW, jFk] <;> (intros; simp_all)) : RS.s (AB a) = RS.s (AB b) := sb h
theorem nsame_c (a b : NoteD) : AC Tryz.prog 10 [a.av, b.av] (fun r => r = .s (AB (decide (a = b)))) := by
  change AC _ _ [.ag [AI a.kind, AI a.from_, AI a.fmt, AI a.have_.a, AI a.have_.b, AI a.have_.c, AI a.have_.d, AI a.have_.e, AI a.have_.f, .sl (a.tags.map TagD.cs), .sl (a.edges.map EdgeD.cs), .sl (a.ops.map OpD.cs)], .ag [AI b.kind, AI b.from_, AI b.fmt, AI b.have_.a, AI b.have_.b, AI b.have_.c, AI b.have_.d, AI b.have_.e, AI b.have_.f, .sl (b.tags.map TagD.cs), .sl (b.edges.map EdgeD.cs), .sl (b.ops.map OpD.cs)]] _; refine AC.of' 50 2 Tryz.func10 rfl ?_; change AW _ _ _ _ [TK.mk 0 .off, TK.mk 0 .off]; refine AW.g (AL.oq (AOpB.op (oB 0 ?_))); refine AL.n ?_; refine AL.oq (AOpB.op (oB 1 ?_)); refine AL.n ?_; refine AL.ra ?_; refine AL.nil (AW.g (AL.r (qa jAo) ?_)); refine AL.r (ql ag_3) ?_; refine AL.r (qa jAo) ?_; refine AL.r (ql ag_3) ?_; refine AL.r qb ?_; refine AL.rm ?_; refine AL.fk (d := 10) rfl (fun h10 => ?_) (fun h10 => ?_)
  ·refine AL.n ?_; (iterate 2 (refine AL.ro (qa jBP) ?_; refine AL.ro (ql ag_3) ?_)); refine AL.ro qb ?_; refine AL.r qt ?_; refine AL.rm ?_; refine AL.fk (d := 17) rfl (fun h17 => ?_) (fun h17 => ?_)
   ·refine AL.n ?_; (iterate 2 (refine AL.ro (qa jCJ) ?_; refine AL.ro (ql ag_3) ?_)); refine AL.ro qb ?_; refine AL.r qt ?_; refine AL.rm ?_; refine AL.fk (d := 24) rfl (fun h24 => ?_) (fun h24 => ?_)
    ·refine AL.n ?_; (iterate 2 (refine AL.ro (qa jCf) ?_; refine AL.ro (qN jDW) ?_)); refine AL.ro (jGj rfl rfl rfl) ?_; refine AL.r qt ?_; refine AL.rm ?_; refine AL.fk (d := 31) rfl (fun h31 => ?_) (fun h31 => ?_)
     ·refine AL.n ?_; (iterate 2 (refine AL.ro (qa jCw) ?_; refine AL.ro (ql jCs) ?_)); refine AL.on rfl rfl rfl (AOpB.op (jAb (jKt a.tags b.tags) rfl (by kernel_rfl) rfl (none) ?_)); rintro r rfl; refine AL.n ?_; refine AL.r qt ?_; refine AL.rm ?_; refine AL.fk (d := 38) rfl (fun h38 => ?_) (fun h38 => ?_)
      ·refine AL.n ?_; (iterate 2 (refine AL.ro (qa jCg) ?_; refine AL.ro (ql jFb) ?_)); refine AL.on rfl rfl rfl (AOpB.op (jAb (eqe_c a.edges b.edges) rfl (by kernel_rfl) rfl (none) ?_)); rintro r rfl; refine AL.n ?_; refine AL.r qt ?_; refine AL.rm ?_; refine AL.fk (d := 45) rfl (fun h45 => ?_) (fun h45 => ?_)
       ·refine AL.n ?_; (iterate 2 (refine AL.ro (qa jCe) ?_; refine AL.ro (ql jFe) ?_)); refine AL.on rfl rfl rfl (AOpB.op (jAb (eqo_c a.ops b.ops) rfl (by kernel_rfl) rfl (none) ?_)); rintro r rfl; refine AL.n ?_; refine AL.r qt ?_; refine AL.ra ?_; refine AL.nil (AW.ret (r1t ?_)); exact nl13
       refine AL.n ?_; (iterate 5 refine AL.rf ?_); refine AL.r qf ?_; refine AL.ra ?_; refine AL.nil (AW.ret (r1t ?_)); exact nl13
      refine AL.n ?_; (iterate 5 refine AL.rf ?_); refine AL.r qf ?_; refine AL.rm ?_; (iterate 5 refine AL.rf ?_); refine AL.r qf ?_; refine AL.ra ?_; refine AL.nil (AW.ret (r1t ?_)); exact nl13
     refine AL.n ?_; (iterate 2 ((iterate 5 refine AL.rf ?_); refine AL.r qf ?_; refine AL.rm ?_)); (iterate 5 refine AL.rf ?_); refine AL.r qf ?_; refine AL.ra ?_; refine AL.nil (AW.ret (r1t ?_)); exact nl13
    refine AL.n ?_; (iterate 3 ((iterate 5 refine AL.rf ?_); refine AL.r qf ?_; refine AL.rm ?_)); (iterate 5 refine AL.rf ?_); refine AL.r qf ?_; refine AL.ra ?_; refine AL.nil (AW.ret (r1t ?_)); exact nl13
   refine AL.n ?_; (iterate 4 ((iterate 5 refine AL.rf ?_); refine AL.r qf ?_; refine AL.rm ?_)); (iterate 5 refine AL.rf ?_); refine AL.r qf ?_; refine AL.ra ?_; refine AL.nil (AW.ret (r1t ?_)); exact nl13
  refine AL.n ?_; (iterate 5 ((iterate 5 refine AL.rf ?_); refine AL.r qf ?_; refine AL.rm ?_)); (iterate 5 refine AL.rf ?_); refine AL.r qf ?_; refine AL.ra ?_; refine AL.nil (AW.ret (r1t ?_)); exact nl13
theorem rnsame_c (a b : NoteD) (h : ∀ e ∈ a.edges, e.lens.Small) : AC Tryz.prog 11 [a.av, b.av] (fun r => r = .s (AB (decide (a = b)))) := by
  change AC _ _ [.ag [AI a.kind, AI a.from_, AI a.fmt, AI a.have_.a, AI a.have_.b, AI a.have_.c, AI a.have_.d, AI a.have_.e, AI a.have_.f, .sl (a.tags.map TagD.cs), .sl (a.edges.map EdgeD.cs), .sl (a.ops.map OpD.cs)], .ag [AI b.kind, AI b.from_, AI b.fmt, AI b.have_.a, AI b.have_.b, AI b.have_.c, AI b.have_.d, AI b.have_.e, AI b.have_.f, .sl (b.tags.map TagD.cs), .sl (b.edges.map EdgeD.cs), .sl (b.ops.map OpD.cs)]] _; refine AC.of' 50 2 Tryz.func11 rfl ?_; change AW _ _ _ _ [TK.mk 0 .off, TK.mk 0 .off]; refine AW.g (AL.oq (AOpB.op (oB 0 ?_))); refine AL.n ?_; refine AL.oq (AOpB.op (oB 1 ?_)); refine AL.n ?_; refine AL.ra ?_; refine AL.nil (AW.g (AL.r (qa jAo) ?_)); refine AL.r (ql ag_3) ?_; refine AL.r (qa jAo) ?_; refine AL.r (ql ag_3) ?_; refine AL.r qb ?_; refine AL.rm ?_; refine AL.fk (d := 10) rfl (fun h10 => ?_) (fun h10 => ?_)
  ·refine AL.n ?_; (iterate 2 (refine AL.ro (qa jBP) ?_; refine AL.ro (ql ag_3) ?_)); refine AL.ro qb ?_; refine AL.r qt ?_; refine AL.rm ?_; refine AL.fk (d := 17) rfl (fun h17 => ?_) (fun h17 => ?_)
   ·refine AL.n ?_; (iterate 2 (refine AL.ro (qa jCJ) ?_; refine AL.ro (ql ag_3) ?_)); refine AL.ro qb ?_; refine AL.r qt ?_; refine AL.rm ?_; refine AL.fk (d := 24) rfl (fun h24 => ?_) (fun h24 => ?_)
    ·refine AL.n ?_; (iterate 2 (refine AL.ro (qa jCf) ?_; refine AL.ro (qN jDW) ?_)); refine AL.ro (jGj rfl rfl rfl) ?_; refine AL.r qt ?_; refine AL.rm ?_; refine AL.fk (d := 31) rfl (fun h31 => ?_) (fun h31 => ?_)
     ·refine AL.n ?_; (iterate 2 (refine AL.ro (qa jCw) ?_; refine AL.ro (ql jCs) ?_)); refine AL.on rfl rfl rfl (AOpB.op (jAb (jKV a.tags b.tags) rfl (by kernel_rfl) rfl (none) ?_)); rintro r rfl; refine AL.n ?_; refine AL.r qt ?_; refine AL.rm ?_; refine AL.fk (d := 38) rfl (fun h38 => ?_) (fun h38 => ?_)
      ·refine AL.n ?_; (iterate 2 (refine AL.ro (qa jCg) ?_; refine AL.ro (ql jFb) ?_)); refine AL.on rfl rfl rfl (AOpB.op (jAb (jID a.edges b.edges h) rfl (by kernel_rfl) rfl (none) ?_)); rintro r rfl; refine AL.n ?_; refine AL.r qt ?_; refine AL.rm ?_; refine AL.fk (d := 45) rfl (fun h45 => ?_) (fun h45 => ?_)
       ·refine AL.n ?_; (iterate 2 (refine AL.ro (qa jCe) ?_; refine AL.ro (ql jFe) ?_)); refine AL.on rfl rfl rfl (AOpB.op (jAb (jLx a.ops b.ops) rfl (by kernel_rfl) rfl (none) ?_)); rintro r rfl; refine AL.n ?_; refine AL.r qt ?_; refine AL.ra ?_; refine AL.nil (AW.ret (r1t ?_)); exact nl13
       refine AL.n ?_; (iterate 5 refine AL.rf ?_); refine AL.r qf ?_; refine AL.ra ?_; refine AL.nil (AW.ret (r1t ?_)); exact nl13
      refine AL.n ?_; (iterate 5 refine AL.rf ?_); refine AL.r qf ?_; refine AL.rm ?_; (iterate 5 refine AL.rf ?_); refine AL.r qf ?_; refine AL.ra ?_; refine AL.nil (AW.ret (r1t ?_)); exact nl13
     refine AL.n ?_; (iterate 2 ((iterate 5 refine AL.rf ?_); refine AL.r qf ?_; refine AL.rm ?_)); (iterate 5 refine AL.rf ?_); refine AL.r qf ?_; refine AL.ra ?_; refine AL.nil (AW.ret (r1t ?_)); exact nl13
    refine AL.n ?_; (iterate 3 ((iterate 5 refine AL.rf ?_); refine AL.r qf ?_; refine AL.rm ?_)); (iterate 5 refine AL.rf ?_); refine AL.r qf ?_; refine AL.ra ?_; refine AL.nil (AW.ret (r1t ?_)); exact nl13
   refine AL.n ?_; (iterate 4 ((iterate 5 refine AL.rf ?_); refine AL.r qf ?_; refine AL.rm ?_)); (iterate 5 refine AL.rf ?_); refine AL.r qf ?_; refine AL.ra ?_; refine AL.nil (AW.ret (r1t ?_)); exact nl13
  refine AL.n ?_; (iterate 5 ((iterate 5 refine AL.rf ?_); refine AL.r qf ?_; refine AL.rm ?_)); (iterate 5 refine AL.rf ?_); refine AL.r qf ?_; refine AL.ra ?_; refine AL.nil (AW.ret (r1t ?_)); exact nl13
def z6 : V6D := ⟨0, 0, 0, 0, 0, 0⟩
def frB (f : Int) : Bool := decide (1 ≤ f) && decide (f ≤ 6)
def jBn (n : NoteD) : Bool := frB n.from_ &&
  if n.kind = 1 then (n.fmt == 1 || n.fmt == 2) && vecB n.have_ && risT n.tags && decide (n.edges.length = 0) && decide (n.ops.length = 0)
  else decide (n.fmt = 0) && decide (n.tags.length = 0) &&
    if n.kind = 4 then vecB n.have_ && decide (n.edges.length = 0) && decide (n.ops.length = 0)
    else decide (n.have_ = z6) &&
      if n.kind = 2 then chB jDE n.edges && decide (n.ops.length = 0)
      else if n.kind = 3 then chB jBs n.ops && decide (n.edges.length = 0) else false
theorem nl14 {a b : Bool} (h : a = b := by rw [Bool.eq_iff_iff]; simp only [jBn, frB, z6]; simp_all [-List.length_eq_zero_iff, jFk] <;> omega) : RS.s (AB a) = RS.s (AB b) := sb h
set_option maxHeartbeats 1000000 in
theorem tright_1 (fr fm : Int) (hv : V6D) (tg : List TagD) (ed : List EdgeD) (os : List OpD) : AC Tryz.prog 8 [(NoteD.mk 1 fr fm hv tg ed os).av] (fun r => r = .s (AB (jBn ⟨1, fr, fm, hv, tg, ed, os⟩))) := by
  change AC _ _ [.ag [AI 1, AI fr, AI fm, AI hv.a, AI hv.b, AI hv.c, AI hv.d, AI hv.e, AI hv.f, .sl (tg.map TagD.cs), .sl (ed.map EdgeD.cs), .sl (os.map OpD.cs)]] _; refine AC.of' 92 1 Tryz.func8 rfl ?_; change AW _ _ _ _ [TK.mk 0 .off]; refine AW.g (AL.oq (AOpB.op (oB 0 ?_))); refine AL.n ?_; refine AL.ra ?_; refine AL.nil (AW.seq (AW.g (AL.r (qa jBP) ?_))); refine AL.r (ql ag_3) ?_; refine AL.r qb ?_; refine AL.rm ?_; refine AL.fk (d := 7) rfl (fun h7 => ?_) (fun h7 => ?_)
  ·refine AL.n ?_; (iterate 3 refine AL.rf ?_); refine AL.r qt ?_; refine AL.nil (AW.cond_t rfl (AW.g (AL.ra ?_))); refine AL.nil (AW.ret (r1t ?_)); exact nl14
  refine AL.n ?_; refine AL.ro (qa jBP) ?_; refine AL.ro (ql ag_3) ?_; refine AL.ro qb ?_; refine AL.r qf ?_; refine AL.nil (AW.cd rfl (fun h11 => ?_) (fun h11 => ?_))
  ·refine AW.g (AL.ra ?_); refine AL.nil (AW.ret (r1t ?_)); exact nl14
  refine AW.skip (AW.g (AL.r (qa jAo) ?_)); refine AL.r (ql ag_3) ?_; refine AL.r qb ?_; refine AL.ra ?_; refine AL.nil (AW.seq (AW.g (AL.rm ?_))); refine AL.r qu ?_; refine AL.rm ?_; (iterate 4 refine AL.rf ?_); (iterate 4 refine AL.ru ?_); refine AL.rf ?_; refine AL.r qf ?_; refine AL.nil (AW.cond_f rfl (AW.skip (AW.seq (AW.g (AL.rm ?_))))); refine AL.r qu ?_; refine AL.rm ?_; (iterate 2 refine AL.rf ?_); refine AL.rf ?_; refine AL.r qf ?_; refine AL.rm ?_; (iterate 4 refine AL.rf ?_); refine AL.r qf ?_; refine AL.nil (AW.cond_f rfl (AW.skip (AW.seq (AW.g (AL.r (qa jAo) ?_))))); refine AL.r (ql ag_3) ?_; refine AL.r qb ?_; refine AL.rm ?_; refine AL.ro (qa jCg) ?_; refine AL.ro (ql jFb) ?_; refine AL.ro (lN jDn) ?_; refine AL.ro qb ?_; refine AL.r qt ?_; refine AL.rm ?_; refine AL.fk (d := 50) rfl (fun h50 => ?_) (fun h50 => ?_)
  ·refine AL.n ?_; (iterate 4 refine AL.rf ?_); (iterate 4 refine AL.ru ?_); refine AL.rf ?_; refine AL.r qt ?_; refine AL.nil (AW.cond_t rfl (AW.g (AL.ra ?_))); refine AL.nil (AW.ret (r1t ?_)); exact nl14
  refine AL.n ?_; refine AL.ro (qa jAo) ?_; refine AL.ro (ql ag_3) ?_; refine AL.ro qb ?_; refine AL.ro (jAa rfl rfl) ?_; refine AL.ro (qa jCe) ?_; refine AL.ro (ql jFe) ?_; refine AL.ro (lN jDp) ?_; refine AL.ro qb ?_; refine AL.ro (jAm rfl rfl rfl) ?_; refine AL.r qf ?_; refine AL.nil (AW.cd rfl (fun h60 => ?_) (fun h60 => ?_))
  ·refine AW.g (AL.ra ?_); refine AL.nil (AW.ret (r1t ?_)); exact nl14
  refine AW.skip (AW.seq (AW.g (AL.r (qa jAo) ?_))); refine AL.r (ql ag_3) ?_; refine AL.nil (AW.block (AW.g (AL.r qb ?_))); refine AL.ra ?_; refine AL.nil (AW.cond_t rfl (AW.g (AL.r (qa jCJ) ?_))); refine AL.r (ql ag_3) ?_; refine AL.cl (jE1 fm) ?_; refine AL.n ?_; refine AL.rm ?_; refine AL.fk (d := 68) rfl (fun h68 => ?_) (fun h68 => ?_)
  ·refine AL.n ?_; refine AL.ro (qa jCf) ?_; refine AL.ro (qN jDW) ?_; refine AL.on rfl rfl rfl (AOpB.op (jAb (jKs hv) rfl (by kernel_rfl) rfl (none) ?_)); rintro r rfl; refine AL.n ?_; refine AL.r qt ?_; refine AL.rm ?_; refine AL.fk (d := 73) rfl (fun h73 => ?_) (fun h73 => ?_)
   ·refine AL.n ?_; refine AL.ro (qa jCw) ?_; refine AL.ro (ql jCs) ?_; refine AL.on rfl rfl rfl (AOpB.op (jAb (rising_c tg) rfl (by kernel_rfl) rfl (none) ?_)); rintro r rfl; refine AL.n ?_; refine AL.r qt ?_; refine AL.ra ?_; refine AL.nil (AW.ret (r1t ?_)); exact nl14
   refine AL.n ?_; (iterate 3 refine AL.rf ?_); refine AL.r qf ?_; refine AL.ra ?_; refine AL.nil (AW.ret (r1t ?_)); exact nl14
  refine AL.n ?_; (iterate 3 refine AL.rf ?_); refine AL.r qf ?_; refine AL.rm ?_; (iterate 3 refine AL.rf ?_); refine AL.r qf ?_; refine AL.ra ?_; refine AL.nil (AW.ret (r1t ?_)); exact nl14
set_option maxHeartbeats 1000000 in
theorem tright_2 (fr fm : Int) (hv : V6D) (tg : List TagD) (ed : List EdgeD) (os : List OpD) : AC Tryz.prog 8 [(NoteD.mk 2 fr fm hv tg ed os).av] (fun r => r = .s (AB (jBn ⟨2, fr, fm, hv, tg, ed, os⟩))) := by
  change AC _ _ [.ag [AI 2, AI fr, AI fm, AI hv.a, AI hv.b, AI hv.c, AI hv.d, AI hv.e, AI hv.f, .sl (tg.map TagD.cs), .sl (ed.map EdgeD.cs), .sl (os.map OpD.cs)]] _; refine AC.of' 92 1 Tryz.func8 rfl ?_; change AW _ _ _ _ [TK.mk 0 .off]; refine AW.g (AL.oq (AOpB.op (oB 0 ?_))); refine AL.n ?_; refine AL.ra ?_; refine AL.nil (AW.seq (AW.g (AL.r (qa jBP) ?_))); refine AL.r (ql ag_3) ?_; refine AL.r qb ?_; refine AL.rm ?_; refine AL.fk (d := 7) rfl (fun h7 => ?_) (fun h7 => ?_)
  ·refine AL.n ?_; (iterate 3 refine AL.rf ?_); refine AL.r qt ?_; refine AL.nil (AW.cond_t rfl (AW.g (AL.ra ?_))); refine AL.nil (AW.ret (r1t ?_)); exact nl14
  refine AL.n ?_; refine AL.ro (qa jBP) ?_; refine AL.ro (ql ag_3) ?_; refine AL.ro qb ?_; refine AL.r qf ?_; refine AL.nil (AW.cd rfl (fun h11 => ?_) (fun h11 => ?_))
  ·refine AW.g (AL.ra ?_); refine AL.nil (AW.ret (r1t ?_)); exact nl14
  refine AW.skip (AW.g (AL.r (qa jAo) ?_)); refine AL.r (ql ag_3) ?_; refine AL.r qb ?_; refine AL.ra ?_; refine AL.nil (AW.seq (AW.g (AL.rm ?_))); refine AL.r qu ?_; refine AL.rm ?_; refine AL.ro (qa jCJ) ?_; refine AL.ro (ql ag_3) ?_; refine AL.ro qb ?_; refine AL.ro (jAa rfl rfl) ?_; refine AL.fk (d := 21) rfl (fun h21 => ?_) (fun h21 => ?_)
  ·refine AL.n ?_; (iterate 4 refine AL.rf ?_); refine AL.ro (jAm rfl rfl rfl) ?_; refine AL.r qt ?_; refine AL.nil (AW.cond_t rfl (AW.g (AL.ra ?_))); refine AL.nil (AW.ret (r1t ?_)); exact nl14
  refine AL.n ?_; refine AL.ro (qa jCw) ?_; refine AL.ro (ql jCs) ?_; refine AL.ro (lN jB5) ?_; refine AL.ro qb ?_; refine AL.ro (jAs rfl rfl rfl) ?_; refine AL.r qt ?_; refine AL.nil (AW.cd rfl (fun h27 => ?_) (fun h27 => ?_))
  ·refine AW.g (AL.ra ?_); refine AL.nil (AW.ret (r1t ?_)); exact nl14
  refine AW.skip (AW.seq (AW.g (AL.rm ?_))); refine AL.r qu ?_; refine AL.rm ?_; refine AL.ro (qa jAo) ?_; refine AL.ro (ql ag_3) ?_; refine AL.ro qb ?_; refine AL.r qt ?_; refine AL.rm ?_; refine AL.ro (qa jCf) ?_; refine AL.ro (qN jDW) ?_; refine AL.ro (jCE rfl jBS jFf rfl rfl) ?_; refine AL.ro (jCT rfl rfl rfl) ?_; refine AL.r qt ?_; refine AL.nil (AW.cd rfl (fun h40 => ?_) (fun h40 => ?_))
  ·refine AW.g (AL.ra ?_); refine AL.nil (AW.ret (r1t ?_)); exact nl14
  refine AW.skip (AW.seq (AW.g (AL.r (qa jAo) ?_))); refine AL.r (ql ag_3) ?_; refine AL.r qb ?_; refine AL.rm ?_; (iterate 4 refine AL.rf ?_); refine AL.r qf ?_; refine AL.rm ?_; refine AL.ro (qa jAo) ?_; refine AL.ro (ql ag_3) ?_; refine AL.ro qb ?_; refine AL.ro (jAa rfl rfl) ?_; refine AL.ro (qa jCe) ?_; refine AL.ro (ql jFe) ?_; refine AL.ro (lN jDp) ?_; refine AL.ro qb ?_; refine AL.ro (jAm rfl rfl rfl) ?_; refine AL.r qf ?_; refine AL.nil (AW.cd rfl (fun h60 => ?_) (fun h60 => ?_))
  ·refine AW.g (AL.ra ?_); refine AL.nil (AW.ret (r1t ?_)); exact nl14
  refine AW.skip (AW.seq (AW.g (AL.r (qa jAo) ?_))); refine AL.r (ql ag_3) ?_; refine AL.nil (AW.block (AW.g (AL.r qb ?_))); refine AL.ra ?_; refine AL.nil (AW.cond_f rfl (AW.g (AL.r qb ?_))); refine AL.ra ?_; refine AL.nil (AW.cond_t rfl (AW.g (AL.r (qa jCg) ?_))); refine AL.r (ql jFb) ?_; refine AL.cl (chunke_c ed) ?_; refine AL.n ?_; refine AL.ra ?_; refine AL.nil (AW.ret (r1t ?_)); exact nl14
set_option maxHeartbeats 1000000 in
theorem tright_3 (fr fm : Int) (hv : V6D) (tg : List TagD) (ed : List EdgeD) (os : List OpD) : AC Tryz.prog 8 [(NoteD.mk 3 fr fm hv tg ed os).av] (fun r => r = .s (AB (jBn ⟨3, fr, fm, hv, tg, ed, os⟩))) := by
  change AC _ _ [.ag [AI 3, AI fr, AI fm, AI hv.a, AI hv.b, AI hv.c, AI hv.d, AI hv.e, AI hv.f, .sl (tg.map TagD.cs), .sl (ed.map EdgeD.cs), .sl (os.map OpD.cs)]] _; refine AC.of' 92 1 Tryz.func8 rfl ?_; change AW _ _ _ _ [TK.mk 0 .off]; refine AW.g (AL.oq (AOpB.op (oB 0 ?_))); refine AL.n ?_; refine AL.ra ?_; refine AL.nil (AW.seq (AW.g (AL.r (qa jBP) ?_))); refine AL.r (ql ag_3) ?_; refine AL.r qb ?_; refine AL.rm ?_; refine AL.fk (d := 7) rfl (fun h7 => ?_) (fun h7 => ?_)
  ·refine AL.n ?_; (iterate 3 refine AL.rf ?_); refine AL.r qt ?_; refine AL.nil (AW.cond_t rfl (AW.g (AL.ra ?_))); refine AL.nil (AW.ret (r1t ?_)); exact nl14
  refine AL.n ?_; refine AL.ro (qa jBP) ?_; refine AL.ro (ql ag_3) ?_; refine AL.ro qb ?_; refine AL.r qf ?_; refine AL.nil (AW.cd rfl (fun h11 => ?_) (fun h11 => ?_))
  ·refine AW.g (AL.ra ?_); refine AL.nil (AW.ret (r1t ?_)); exact nl14
  refine AW.skip (AW.g (AL.r (qa jAo) ?_)); refine AL.r (ql ag_3) ?_; refine AL.r qb ?_; refine AL.ra ?_; refine AL.nil (AW.seq (AW.g (AL.rm ?_))); refine AL.r qu ?_; refine AL.rm ?_; refine AL.ro (qa jCJ) ?_; refine AL.ro (ql ag_3) ?_; refine AL.ro qb ?_; refine AL.ro (jAa rfl rfl) ?_; refine AL.fk (d := 21) rfl (fun h21 => ?_) (fun h21 => ?_)
  ·refine AL.n ?_; (iterate 4 refine AL.rf ?_); refine AL.ro (jAm rfl rfl rfl) ?_; refine AL.r qt ?_; refine AL.nil (AW.cond_t rfl (AW.g (AL.ra ?_))); refine AL.nil (AW.ret (r1t ?_)); exact nl14
  refine AL.n ?_; refine AL.ro (qa jCw) ?_; refine AL.ro (ql jCs) ?_; refine AL.ro (lN jB5) ?_; refine AL.ro qb ?_; refine AL.ro (jAs rfl rfl rfl) ?_; refine AL.r qt ?_; refine AL.nil (AW.cd rfl (fun h27 => ?_) (fun h27 => ?_))
  ·refine AW.g (AL.ra ?_); refine AL.nil (AW.ret (r1t ?_)); exact nl14
  refine AW.skip (AW.seq (AW.g (AL.rm ?_))); refine AL.r qu ?_; refine AL.rm ?_; refine AL.ro (qa jAo) ?_; refine AL.ro (ql ag_3) ?_; refine AL.ro qb ?_; refine AL.r qt ?_; refine AL.rm ?_; refine AL.ro (qa jCf) ?_; refine AL.ro (qN jDW) ?_; refine AL.ro (jCE rfl jBS jFf rfl rfl) ?_; refine AL.ro (jCT rfl rfl rfl) ?_; refine AL.r qt ?_; refine AL.nil (AW.cd rfl (fun h40 => ?_) (fun h40 => ?_))
  ·refine AW.g (AL.ra ?_); refine AL.nil (AW.ret (r1t ?_)); exact nl14
  refine AW.skip (AW.seq (AW.g (AL.r (qa jAo) ?_))); refine AL.r (ql ag_3) ?_; refine AL.r qb ?_; refine AL.rm ?_; refine AL.ro (qa jCg) ?_; refine AL.ro (ql jFb) ?_; refine AL.ro (lN jDn) ?_; refine AL.ro qb ?_; refine AL.r qt ?_; refine AL.rm ?_; refine AL.fk (d := 50) rfl (fun h50 => ?_) (fun h50 => ?_)
  ·refine AL.n ?_; (iterate 4 refine AL.rf ?_); (iterate 4 refine AL.ru ?_); refine AL.rf ?_; refine AL.r qt ?_; refine AL.nil (AW.cond_t rfl (AW.g (AL.ra ?_))); refine AL.nil (AW.ret (r1t ?_)); exact nl14
  refine AL.n ?_; refine AL.ro (qa jAo) ?_; refine AL.ro (ql ag_3) ?_; refine AL.ro qb ?_; refine AL.ro (jAa rfl rfl) ?_; (iterate 4 refine AL.rf ?_); refine AL.ro (jAs rfl rfl rfl) ?_; refine AL.r qf ?_; refine AL.nil (AW.cond_f rfl (AW.skip (AW.seq (AW.g (AL.r (qa jAo) ?_))))); refine AL.r (ql ag_3) ?_; refine AL.nil (AW.block (AW.g (AL.r qb ?_))); refine AL.ra ?_; refine AL.nil (AW.cond_f rfl (AW.g (AL.r qb ?_))); refine AL.ra ?_; refine AL.nil (AW.cond_f rfl (AW.g (AL.r qb ?_))); refine AL.ra ?_; refine AL.nil (AW.cond_t rfl (AW.g (AL.r (qa jCe) ?_))); refine AL.r (ql jFe) ?_; refine AL.cl (chunko_c os) ?_; refine AL.n ?_; refine AL.ra ?_; refine AL.nil (AW.ret (r1t ?_))
  exact nl14
set_option maxHeartbeats 1000000 in
theorem tright_4 (fr fm : Int) (hv : V6D) (tg : List TagD) (ed : List EdgeD) (os : List OpD) : AC Tryz.prog 8 [(NoteD.mk 4 fr fm hv tg ed os).av] (fun r => r = .s (AB (jBn ⟨4, fr, fm, hv, tg, ed, os⟩))) := by
  change AC _ _ [.ag [AI 4, AI fr, AI fm, AI hv.a, AI hv.b, AI hv.c, AI hv.d, AI hv.e, AI hv.f, .sl (tg.map TagD.cs), .sl (ed.map EdgeD.cs), .sl (os.map OpD.cs)]] _; refine AC.of' 92 1 Tryz.func8 rfl ?_; change AW _ _ _ _ [TK.mk 0 .off]; refine AW.g (AL.oq (AOpB.op (oB 0 ?_))); refine AL.n ?_; refine AL.ra ?_; refine AL.nil (AW.seq (AW.g (AL.r (qa jBP) ?_))); refine AL.r (ql ag_3) ?_; refine AL.r qb ?_; refine AL.rm ?_; refine AL.fk (d := 7) rfl (fun h7 => ?_) (fun h7 => ?_)
  ·refine AL.n ?_; (iterate 3 refine AL.rf ?_); refine AL.r qt ?_; refine AL.nil (AW.cond_t rfl (AW.g (AL.ra ?_))); refine AL.nil (AW.ret (r1t ?_)); exact nl14
  refine AL.n ?_; refine AL.ro (qa jBP) ?_; refine AL.ro (ql ag_3) ?_; refine AL.ro qb ?_; refine AL.r qf ?_; refine AL.nil (AW.cd rfl (fun h11 => ?_) (fun h11 => ?_))
  ·refine AW.g (AL.ra ?_); refine AL.nil (AW.ret (r1t ?_)); exact nl14
  refine AW.skip (AW.g (AL.r (qa jAo) ?_)); refine AL.r (ql ag_3) ?_; refine AL.r qb ?_; refine AL.ra ?_; refine AL.nil (AW.seq (AW.g (AL.rm ?_))); refine AL.r qu ?_; refine AL.rm ?_; refine AL.ro (qa jCJ) ?_; refine AL.ro (ql ag_3) ?_; refine AL.ro qb ?_; refine AL.ro (jAa rfl rfl) ?_; refine AL.fk (d := 21) rfl (fun h21 => ?_) (fun h21 => ?_)
  ·refine AL.n ?_; (iterate 4 refine AL.rf ?_); refine AL.ro (jAm rfl rfl rfl) ?_; refine AL.r qt ?_; refine AL.nil (AW.cond_t rfl (AW.g (AL.ra ?_))); refine AL.nil (AW.ret (r1t ?_)); exact nl14
  refine AL.n ?_; refine AL.ro (qa jCw) ?_; refine AL.ro (ql jCs) ?_; refine AL.ro (lN jB5) ?_; refine AL.ro qb ?_; refine AL.ro (jAs rfl rfl rfl) ?_; refine AL.r qt ?_; refine AL.nil (AW.cd rfl (fun h27 => ?_) (fun h27 => ?_))
  ·refine AW.g (AL.ra ?_); refine AL.nil (AW.ret (r1t ?_)); exact nl14
  refine AW.skip (AW.seq (AW.g (AL.rm ?_))); refine AL.r qu ?_; refine AL.rm ?_; refine AL.ro (qa jAo) ?_; refine AL.ro (ql ag_3) ?_; refine AL.ro qb ?_; refine AL.r qt ?_; refine AL.rm ?_; (iterate 4 refine AL.rf ?_); refine AL.r qf ?_; refine AL.nil (AW.cond_f rfl (AW.skip (AW.seq (AW.g (AL.r (qa jAo) ?_))))); refine AL.r (ql ag_3) ?_; refine AL.r qb ?_; refine AL.rm ?_; refine AL.ro (qa jCg) ?_; refine AL.ro (ql jFb) ?_; refine AL.ro (lN jDn) ?_; refine AL.ro qb ?_; refine AL.r qt ?_; refine AL.rm ?_; refine AL.fk (d := 50) rfl (fun h50 => ?_) (fun h50 => ?_)
  ·refine AL.n ?_; (iterate 4 refine AL.rf ?_); (iterate 4 refine AL.ru ?_); refine AL.rf ?_; refine AL.r qt ?_; refine AL.nil (AW.cond_t rfl (AW.g (AL.ra ?_))); refine AL.nil (AW.ret (r1t ?_)); exact nl14
  refine AL.n ?_; refine AL.ro (qa jAo) ?_; refine AL.ro (ql ag_3) ?_; refine AL.ro qb ?_; refine AL.ro (jAa rfl rfl) ?_; refine AL.ro (qa jCe) ?_; refine AL.ro (ql jFe) ?_; refine AL.ro (lN jDp) ?_; refine AL.ro qb ?_; refine AL.ro (jAm rfl rfl rfl) ?_; refine AL.r qf ?_; refine AL.nil (AW.cd rfl (fun h60 => ?_) (fun h60 => ?_))
  ·refine AW.g (AL.ra ?_); refine AL.nil (AW.ret (r1t ?_)); exact nl14
  refine AW.skip (AW.seq (AW.g (AL.r (qa jAo) ?_))); refine AL.r (ql ag_3) ?_; refine AL.nil (AW.block (AW.g (AL.r qb ?_))); refine AL.ra ?_; refine AL.nil (AW.cond_f rfl (AW.g (AL.r qb ?_))); refine AL.ra ?_; refine AL.nil (AW.cond_f rfl (AW.g (AL.r qb ?_))); refine AL.ra ?_; refine AL.nil (AW.cond_f rfl (AW.g (AL.r qb ?_))); refine AL.ra ?_; refine AL.nil (AW.cond_t rfl (AW.g (AL.r (qa jCf) ?_))); refine AL.r (qN jDW) ?_; refine AL.cl (jKs hv) ?_; refine AL.n ?_; refine AL.ra ?_; refine AL.nil (AW.ret (r1t ?_))
  exact nl14
set_option maxHeartbeats 1000000 in
theorem tright_o (k : Int) (h1 : k ≠ 1) (h2 : k ≠ 2) (h3 : k ≠ 3) (h4 : k ≠ 4) (fr fm : Int) (hv : V6D) (tg : List TagD) (ed : List EdgeD) (os : List OpD) : AC Tryz.prog 8 [(NoteD.mk k fr fm hv tg ed os).av] (fun r => r = .s (AB (jBn ⟨k, fr, fm, hv, tg, ed, os⟩))) := by
  change AC _ _ [.ag [AI k, AI fr, AI fm, AI hv.a, AI hv.b, AI hv.c, AI hv.d, AI hv.e, AI hv.f, .sl (tg.map TagD.cs), .sl (ed.map EdgeD.cs), .sl (os.map OpD.cs)]] _; refine AC.of' 92 1 Tryz.func8 rfl ?_; change AW _ _ _ _ [TK.mk 0 .off]; refine AW.g (AL.oq (AOpB.op (oB 0 ?_))); refine AL.n ?_; refine AL.ra ?_; refine AL.nil (AW.seq (AW.g (AL.r (qa jBP) ?_))); refine AL.r (ql ag_3) ?_; refine AL.r qb ?_; refine AL.rm ?_; refine AL.fk (d := 7) rfl (fun h7 => ?_) (fun h7 => ?_)
  ·refine AL.n ?_; (iterate 3 refine AL.rf ?_); refine AL.r qt ?_; refine AL.nil (AW.cond_t rfl (AW.g (AL.ra ?_))); refine AL.nil (AW.ret (r1t ?_)); exact nl14
  refine AL.n ?_; refine AL.ro (qa jBP) ?_; refine AL.ro (ql ag_3) ?_; refine AL.ro qb ?_; refine AL.r qf ?_; refine AL.nil (AW.cd rfl (fun h11 => ?_) (fun h11 => ?_))
  ·refine AW.g (AL.ra ?_); refine AL.nil (AW.ret (r1t ?_)); exact nl14
  refine AW.skip (AW.g (AL.r (qa jAo) ?_)); refine AL.r (ql ag_3) ?_; refine AL.r qb ?_; refine AL.ra ?_; refine AL.nil (AW.seq (AW.g (AL.rm ?_))); refine AL.r qu ?_; refine AL.rm ?_; refine AL.fk (d := 17) rfl (fun h17 => ?_) (fun h17 => ?_)
  ·refine AL.n ?_; refine AL.ro (qa jCJ) ?_; refine AL.ro (ql ag_3) ?_; refine AL.ro qb ?_; refine AL.ro (jAa rfl rfl) ?_; refine AL.fk (d := 21) rfl (fun h21 => ?_) (fun h21 => ?_)
   ·refine AL.n ?_; (iterate 4 refine AL.rf ?_); refine AL.ro (jAm rfl rfl rfl) ?_; refine AL.r qt ?_; refine AL.nil (AW.cond_t rfl (AW.g (AL.ra ?_))); refine AL.nil (AW.ret (r1t ?_)); exact nl14
   refine AL.n ?_; refine AL.ro (qa jCw) ?_; refine AL.ro (ql jCs) ?_; refine AL.ro (lN jB5) ?_; refine AL.ro qb ?_; refine AL.ro (jAs rfl rfl rfl) ?_; refine AL.r qt ?_; refine AL.nil (AW.cd rfl (fun h27 => ?_) (fun h27 => ?_))
   ·refine AW.g (AL.ra ?_); refine AL.nil (AW.ret (r1t ?_)); exact nl14
   refine AW.skip (AW.seq (AW.g (AL.rm ?_))); refine AL.r qu ?_; refine AL.rm ?_; refine AL.fk (d := 30) rfl (fun h30 => ?_) (fun h30 => ?_)
   ·refine AL.n ?_; refine AL.ro (qa jAo) ?_; refine AL.ro (ql ag_3) ?_; refine AL.ro qb ?_; refine AL.r qt ?_; refine AL.rm ?_; refine AL.fk (d := 35) rfl (fun h35 => ?_) (fun h35 => ?_)
    ·refine AL.n ?_; refine AL.ro (qa jCf) ?_; refine AL.ro (qN jDW) ?_; refine AL.ro (jCE rfl jBS jFf rfl rfl) ?_; refine AL.ro (jCT rfl rfl rfl) ?_; refine AL.r qt ?_; refine AL.nil (AW.cd rfl (fun h40 => ?_) (fun h40 => ?_))
     ·refine AW.g (AL.ra ?_); refine AL.nil (AW.ret (r1t ?_)); exact nl14
     refine AW.skip (AW.seq (AW.g (AL.r (qa jAo) ?_))); refine AL.r (ql ag_3) ?_; refine AL.r qb ?_; refine AL.rm ?_; refine AL.fk (d := 44) rfl (fun h44 => ?_) (fun h44 => ?_)
     ·refine AL.n ?_; refine AL.ro (qa jCg) ?_; refine AL.ro (ql jFb) ?_; refine AL.ro (lN jDn) ?_; refine AL.ro qb ?_; refine AL.r qt ?_; refine AL.rm ?_; refine AL.fk (d := 50) rfl (fun h50 => ?_) (fun h50 => ?_)
      ·refine AL.n ?_; (iterate 4 refine AL.rf ?_); (iterate 4 refine AL.ru ?_); refine AL.rf ?_; refine AL.r qt ?_; refine AL.nil (AW.cond_t rfl (AW.g (AL.ra ?_))); refine AL.nil (AW.ret (r1t ?_)); exact nl14
      refine AL.n ?_; refine AL.ro (qa jAo) ?_; refine AL.ro (ql ag_3) ?_; refine AL.ro qb ?_; refine AL.ro (jAa rfl rfl) ?_; refine AL.fk (d := 54) rfl (fun h54 => ?_) (fun h54 => ?_)
      ·refine AL.n ?_; refine AL.ro (qa jCe) ?_; refine AL.ro (ql jFe) ?_; refine AL.ro (lN jDp) ?_; refine AL.ro qb ?_; refine AL.ro (jAm rfl rfl rfl) ?_; refine AL.r qf ?_; refine AL.nil (AW.cd rfl (fun h60 => ?_) (fun h60 => ?_))
       ·refine AW.g (AL.ra ?_); refine AL.nil (AW.ret (r1t ?_)); exact nl14
       refine AW.skip (AW.seq (AW.g (AL.r (qa jAo) ?_))); refine AL.r (ql ag_3) ?_; refine AL.nil (AW.block (AW.g (AL.r qb ?_))); refine AL.ra ?_; refine AL.nil (AW.cd rfl (fun h63 => ?_) (fun h63 => ?_))
       ·(exfalso; first | omega | (simp_all; done))
       refine AW.g (AL.r qb ?_); refine AL.ra ?_; refine AL.nil (AW.cd rfl (fun h78 => ?_) (fun h78 => ?_))
       ·(exfalso; first | omega | (simp_all; done))
       refine AW.g (AL.r qb ?_); refine AL.ra ?_; refine AL.nil (AW.cd rfl (fun h83 => ?_) (fun h83 => ?_))
       ·(exfalso; first | omega | (simp_all; done))
       refine AW.g (AL.r qb ?_); refine AL.ra ?_; refine AL.nil (AW.cd rfl (fun h88 => ?_) (fun h88 => ?_))
       ·(exfalso; first | omega | (simp_all; done))
       refine AW.skip (AW.g (AL.ra ?_)); refine AL.nil (AW.ret (r1t ?_)); exact nl14
      (exfalso; first | omega | (simp_all; done))
     (exfalso; first | omega | (simp_all; done))
    (exfalso; first | omega | (simp_all; done))
   (exfalso; first | omega | (simp_all; done))
  (exfalso; first | omega | (simp_all; done))
theorem jER (n : NoteD) : AC Tryz.prog 8 [n.av] (fun r => r = .s (AB (jBn n))) := by
  obtain ⟨k, fr, fm, hv, tg, ed, os⟩ := n
  by_cases h1 : k = 1
  · subst h1; exact tright_1 fr fm hv tg ed os
  by_cases h2 : k = 2
  · subst h2; exact tright_2 fr fm hv tg ed os
  by_cases h3 : k = 3
  · subst h3; exact tright_3 fr fm hv tg ed os
  by_cases h4 : k = 4
  · subst h4; exact tright_4 fr fm hv tg ed os
  exact tright_o k h1 h2 h3 h4 fr fm hv tg ed os
end Go.Proofs.YtlapcfnmmpbeeaaGreat
