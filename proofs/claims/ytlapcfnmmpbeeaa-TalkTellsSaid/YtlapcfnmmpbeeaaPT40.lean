/- A part of a proof. -/
import Derived.Test.YtlapcfnmmpbeeaaPT38
import Derived.Test.YtlapcfnmmpbeeaaPT39
set_option linter.unusedSimpArgs false
set_option linter.unusedVariables false
namespace Go.Proofs.Ytlapcfnmmpbeeaa
set_option maxRecDepth 100000
set_option maxRecDepth 100000
open Go.RowKit
structure NoteD where
  kind : Int
  from_ : Int
  fmt : Int
  have_ : V6D
  tags : List TagD
  edges : List EdgeD
  ops : List OpD
deriving DecidableEq
def NoteD.cs (x : NoteD) : List AV := [AI x.kind, AI x.from_, AI x.fmt, AI x.have_.a, AI x.have_.b, AI x.have_.c, AI x.have_.d, AI x.have_.e, AI x.have_.f, .sl (x.tags.map TagD.cs), .sl (x.edges.map EdgeD.cs), .sl (x.ops.map OpD.cs)]
abbrev NoteD.av (x : NoteD) : AV := .ag x.cs
def heavyN (x : NoteD) : Bool := decide (100 < (x.tags.length : Int)) || manyB (fun e => heavyL e.lens) x.edges 12 || manyB heavyO x.ops 12
theorem rheavyn_c (a : NoteD) : AC Try.prog 5 [a.av] (fun r => r = .s (AB (heavyN a))) := by
  change AC _ _ [.ag [AI a.kind, AI a.from_, AI a.fmt, AI a.have_.a, AI a.have_.b, AI a.have_.c, AI a.have_.d, AI a.have_.e, AI a.have_.f, .sl (a.tags.map TagD.cs), .sl (a.edges.map EdgeD.cs), .sl (a.ops.map OpD.cs)]] _; refine AC.of' 16 1 Try.func5 rfl ?_; change AW _ _ _ _ [TK.mk 0 .off]; refine AW.g (AL.oq (AOpB.op (oB 0 ?_))); refine AL.n ?_; refine AL.ra ?_; refine AL.nil (AW.g (AL.r (qa fo_28_4) ?_)); refine AL.r (ql ag_24) ?_; refine AL.r (lN el_24) ?_; refine AL.r qb ?_; refine AL.rm ?_; refine AL.fk (d := 7) rfl (fun h7 => ?_) (fun h7 => ?_)
  ·refine AL.n ?_; (iterate 3 refine AL.rf ?_); refine AL.r qt ?_; refine AL.rm ?_; (iterate 3 refine AL.rf ?_); refine AL.r qt ?_; refine AL.ra ?_; refine AL.nil (AW.ret (r1t ?_))
   (refine sb ?_; unfold heavyN; simp_all <;> (intros; omega))
  refine AL.n ?_; refine AL.ro (qa fo_28_5) ?_; refine AL.ro (ql ag_25) ?_; refine AL.on rfl rfl rfl (AOpB.op (op_call (nheavyes_c a.edges 12) rfl (by kernel_rfl) rfl (none) ?_)); rintro r rfl; refine AL.n ?_; refine AL.r qf ?_; refine AL.rm ?_; refine AL.fk (d := 12) rfl (fun h12 => ?_) (fun h12 => ?_)
  ·refine AL.n ?_; (iterate 3 refine AL.rf ?_); refine AL.r qt ?_; refine AL.ra ?_; refine AL.nil (AW.ret (r1t ?_))
   (refine sb ?_; unfold heavyN; simp_all <;> (intros; omega))
  refine AL.n ?_; refine AL.ro (qa fo_28_6) ?_; refine AL.ro (ql ag_26) ?_; refine AL.on rfl rfl rfl (AOpB.op (op_call (nheavyos_c a.ops 12) rfl (by kernel_rfl) rfl (none) ?_)); rintro r rfl; refine AL.n ?_; refine AL.r qf ?_; refine AL.ra ?_; refine AL.nil (AW.ret (r1t ?_))
  (refine sb ?_; unfold heavyN; simp_all <;> (intros; omega))
def z6 : V6D := ⟨0, 0, 0, 0, 0, 0⟩
def frB (f : Int) : Bool := decide (1 ≤ f) && decide (f ≤ 6)
def noteB (n : NoteD) : Bool := frB n.from_ &&
  if n.kind = 1 then (n.fmt == 1 || n.fmt == 2) && vecB n.have_ && risT n.tags && decide (n.edges.length = 0) && decide (n.ops.length = 0)
  else decide (n.fmt = 0) && decide (n.tags.length = 0) &&
    if n.kind = 4 then vecB n.have_ && decide (n.edges.length = 0) && decide (n.ops.length = 0)
    else decide (n.have_ = z6) &&
      if n.kind = 2 then chB edgeB n.edges && decide (n.ops.length = 0)
      else if n.kind = 3 then chB rightO n.ops && decide (n.edges.length = 0) else false
theorem nl9 {a b : Bool} (h : a = b := by rw [Bool.eq_iff_iff]; simp only [noteB, frB, z6]; simp_all [-List.length_eq_zero_iff, v6_iff] <;> omega) : RS.s (AB a) = RS.s (AB b) := sb h
set_option maxHeartbeats 1000000 in
theorem tright_1 (fr fm : Int) (hv : V6D) (tg : List TagD) (ed : List EdgeD) (os : List OpD) : AC Try.prog 13 [(NoteD.mk 1 fr fm hv tg ed os).av] (fun r => r = .s (AB (noteB ⟨1, fr, fm, hv, tg, ed, os⟩))) := by
  change AC _ _ [.ag [AI 1, AI fr, AI fm, AI hv.a, AI hv.b, AI hv.c, AI hv.d, AI hv.e, AI hv.f, .sl (tg.map TagD.cs), .sl (ed.map EdgeD.cs), .sl (os.map OpD.cs)]] _; refine AC.of' 92 1 Try.func13 rfl ?_; change AW _ _ _ _ [TK.mk 0 .off]; refine AW.g (AL.oq (AOpB.op (oB 0 ?_))); refine AL.n ?_; refine AL.ra ?_; refine AL.nil (AW.seq (AW.g (AL.r (qa fo_28_1) ?_))); refine AL.r (ql ag_3) ?_; refine AL.r qb ?_; refine AL.rm ?_; refine AL.fk (d := 7) rfl (fun h7 => ?_) (fun h7 => ?_)
  ·refine AL.n ?_; (iterate 3 refine AL.rf ?_); refine AL.r qt ?_; refine AL.nil (AW.cond_t rfl (AW.g (AL.ra ?_))); refine AL.nil (AW.ret (r1t ?_)); exact nl9
  refine AL.n ?_; refine AL.ro (qa fo_28_1) ?_; refine AL.ro (ql ag_3) ?_; refine AL.ro qb ?_; refine AL.r qf ?_; refine AL.nil (AW.cd rfl (fun h11 => ?_) (fun h11 => ?_))
  ·refine AW.g (AL.ra ?_); refine AL.nil (AW.ret (r1t ?_)); exact nl9
  refine AW.skip (AW.g (AL.r (qa fo_28_0) ?_)); refine AL.r (ql ag_3) ?_; refine AL.r qb ?_; refine AL.ra ?_; refine AL.nil (AW.seq (AW.g (AL.rm ?_))); refine AL.r qu ?_; refine AL.rm ?_; (iterate 4 refine AL.rf ?_); (iterate 4 refine AL.ru ?_); refine AL.rf ?_; refine AL.r qf ?_; refine AL.nil (AW.cond_f rfl (AW.skip (AW.seq (AW.g (AL.rm ?_))))); refine AL.r qu ?_; refine AL.rm ?_; (iterate 2 refine AL.rf ?_); refine AL.rf ?_; refine AL.r qf ?_; refine AL.rm ?_; (iterate 4 refine AL.rf ?_); refine AL.r qf ?_; refine AL.nil (AW.cond_f rfl (AW.skip (AW.seq (AW.g (AL.r (qa fo_28_0) ?_))))); refine AL.r (ql ag_3) ?_; refine AL.r qb ?_; refine AL.rm ?_; refine AL.ro (qa fo_28_5) ?_; refine AL.ro (ql ag_25) ?_; refine AL.ro (lN el_25) ?_; refine AL.ro qb ?_; refine AL.r qt ?_; refine AL.rm ?_; refine AL.fk (d := 50) rfl (fun h50 => ?_) (fun h50 => ?_)
  ·refine AL.n ?_; (iterate 4 refine AL.rf ?_); (iterate 4 refine AL.ru ?_); refine AL.rf ?_; refine AL.r qt ?_; refine AL.nil (AW.cond_t rfl (AW.g (AL.ra ?_))); refine AL.nil (AW.ret (r1t ?_)); exact nl9
  refine AL.n ?_; refine AL.ro (qa fo_28_0) ?_; refine AL.ro (ql ag_3) ?_; refine AL.ro qb ?_; refine AL.ro (rd_move rfl rfl) ?_; refine AL.ro (qa fo_28_6) ?_; refine AL.ro (ql ag_26) ?_; refine AL.ro (lN el_26) ?_; refine AL.ro qb ?_; refine AL.ro (rd_pick_t rfl rfl rfl) ?_; refine AL.r qf ?_; refine AL.nil (AW.cd rfl (fun h60 => ?_) (fun h60 => ?_))
  ·refine AW.g (AL.ra ?_); refine AL.nil (AW.ret (r1t ?_)); exact nl9
  refine AW.skip (AW.seq (AW.g (AL.r (qa fo_28_0) ?_))); refine AL.r (ql ag_3) ?_; refine AL.nil (AW.block (AW.g (AL.r qb ?_))); refine AL.ra ?_; refine AL.nil (AW.cond_t rfl (AW.g (AL.r (qa fo_28_2) ?_))); refine AL.r (ql ag_3) ?_; refine AL.cl (cright_c fm) ?_; refine AL.n ?_; refine AL.rm ?_; refine AL.fk (d := 68) rfl (fun h68 => ?_) (fun h68 => ?_)
  ·refine AL.n ?_; refine AL.ro (qa fo_28_3) ?_; refine AL.ro (qN ag_23) ?_; refine AL.on rfl rfl rfl (AOpB.op (op_call (dright_c hv) rfl (by kernel_rfl) rfl (none) ?_)); rintro r rfl; refine AL.n ?_; refine AL.r qt ?_; refine AL.rm ?_; refine AL.fk (d := 73) rfl (fun h73 => ?_) (fun h73 => ?_)
   ·refine AL.n ?_; refine AL.ro (qa fo_28_4) ?_; refine AL.ro (ql ag_24) ?_; refine AL.on rfl rfl rfl (AOpB.op (op_call (rising_c tg) rfl (by kernel_rfl) rfl (none) ?_)); rintro r rfl; refine AL.n ?_; refine AL.r qt ?_; refine AL.ra ?_; refine AL.nil (AW.ret (r1t ?_)); exact nl9
   refine AL.n ?_; (iterate 3 refine AL.rf ?_); refine AL.r qf ?_; refine AL.ra ?_; refine AL.nil (AW.ret (r1t ?_)); exact nl9
  refine AL.n ?_; (iterate 3 refine AL.rf ?_); refine AL.r qf ?_; refine AL.rm ?_; (iterate 3 refine AL.rf ?_); refine AL.r qf ?_; refine AL.ra ?_; refine AL.nil (AW.ret (r1t ?_)); exact nl9
set_option maxHeartbeats 1000000 in
theorem tright_2 (fr fm : Int) (hv : V6D) (tg : List TagD) (ed : List EdgeD) (os : List OpD) : AC Try.prog 13 [(NoteD.mk 2 fr fm hv tg ed os).av] (fun r => r = .s (AB (noteB ⟨2, fr, fm, hv, tg, ed, os⟩))) := by
  change AC _ _ [.ag [AI 2, AI fr, AI fm, AI hv.a, AI hv.b, AI hv.c, AI hv.d, AI hv.e, AI hv.f, .sl (tg.map TagD.cs), .sl (ed.map EdgeD.cs), .sl (os.map OpD.cs)]] _; refine AC.of' 92 1 Try.func13 rfl ?_; change AW _ _ _ _ [TK.mk 0 .off]; refine AW.g (AL.oq (AOpB.op (oB 0 ?_))); refine AL.n ?_; refine AL.ra ?_; refine AL.nil (AW.seq (AW.g (AL.r (qa fo_28_1) ?_))); refine AL.r (ql ag_3) ?_; refine AL.r qb ?_; refine AL.rm ?_; refine AL.fk (d := 7) rfl (fun h7 => ?_) (fun h7 => ?_)
  ·refine AL.n ?_; (iterate 3 refine AL.rf ?_); refine AL.r qt ?_; refine AL.nil (AW.cond_t rfl (AW.g (AL.ra ?_))); refine AL.nil (AW.ret (r1t ?_)); exact nl9
  refine AL.n ?_; refine AL.ro (qa fo_28_1) ?_; refine AL.ro (ql ag_3) ?_; refine AL.ro qb ?_; refine AL.r qf ?_; refine AL.nil (AW.cd rfl (fun h11 => ?_) (fun h11 => ?_))
  ·refine AW.g (AL.ra ?_); refine AL.nil (AW.ret (r1t ?_)); exact nl9
  refine AW.skip (AW.g (AL.r (qa fo_28_0) ?_)); refine AL.r (ql ag_3) ?_; refine AL.r qb ?_; refine AL.ra ?_; refine AL.nil (AW.seq (AW.g (AL.rm ?_))); refine AL.r qu ?_; refine AL.rm ?_; refine AL.ro (qa fo_28_2) ?_; refine AL.ro (ql ag_3) ?_; refine AL.ro qb ?_; refine AL.ro (rd_move rfl rfl) ?_; refine AL.fk (d := 21) rfl (fun h21 => ?_) (fun h21 => ?_)
  ·refine AL.n ?_; (iterate 4 refine AL.rf ?_); refine AL.ro (rd_pick_t rfl rfl rfl) ?_; refine AL.r qt ?_; refine AL.nil (AW.cond_t rfl (AW.g (AL.ra ?_))); refine AL.nil (AW.ret (r1t ?_)); exact nl9
  refine AL.n ?_; refine AL.ro (qa fo_28_4) ?_; refine AL.ro (ql ag_24) ?_; refine AL.ro (lN el_24) ?_; refine AL.ro qb ?_; refine AL.ro (rd_pick_f rfl rfl rfl) ?_; refine AL.r qt ?_; refine AL.nil (AW.cd rfl (fun h27 => ?_) (fun h27 => ?_))
  ·refine AW.g (AL.ra ?_); refine AL.nil (AW.ret (r1t ?_)); exact nl9
  refine AW.skip (AW.seq (AW.g (AL.rm ?_))); refine AL.r qu ?_; refine AL.rm ?_; refine AL.ro (qa fo_28_0) ?_; refine AL.ro (ql ag_3) ?_; refine AL.ro qb ?_; refine AL.r qt ?_; refine AL.rm ?_; refine AL.ro (qa fo_28_3) ?_; refine AL.ro (qN ag_23) ?_; refine AL.ro (rd_buildA rfl ar_23 ze_23 rfl rfl) ?_; refine AL.ro (rd_ne_Vector rfl rfl rfl) ?_; refine AL.r qt ?_; refine AL.nil (AW.cd rfl (fun h40 => ?_) (fun h40 => ?_))
  ·refine AW.g (AL.ra ?_); refine AL.nil (AW.ret (r1t ?_)); exact nl9
  refine AW.skip (AW.seq (AW.g (AL.r (qa fo_28_0) ?_))); refine AL.r (ql ag_3) ?_; refine AL.r qb ?_; refine AL.rm ?_; (iterate 4 refine AL.rf ?_); refine AL.r qf ?_; refine AL.rm ?_; refine AL.ro (qa fo_28_0) ?_; refine AL.ro (ql ag_3) ?_; refine AL.ro qb ?_; refine AL.ro (rd_move rfl rfl) ?_; refine AL.ro (qa fo_28_6) ?_; refine AL.ro (ql ag_26) ?_; refine AL.ro (lN el_26) ?_; refine AL.ro qb ?_; refine AL.ro (rd_pick_t rfl rfl rfl) ?_; refine AL.r qf ?_; refine AL.nil (AW.cd rfl (fun h60 => ?_) (fun h60 => ?_))
  ·refine AW.g (AL.ra ?_); refine AL.nil (AW.ret (r1t ?_)); exact nl9
  refine AW.skip (AW.seq (AW.g (AL.r (qa fo_28_0) ?_))); refine AL.r (ql ag_3) ?_; refine AL.nil (AW.block (AW.g (AL.r qb ?_))); refine AL.ra ?_; refine AL.nil (AW.cond_f rfl (AW.g (AL.r qb ?_))); refine AL.ra ?_; refine AL.nil (AW.cond_t rfl (AW.g (AL.r (qa fo_28_5) ?_))); refine AL.r (ql ag_25) ?_; refine AL.cl (chunke_c ed) ?_; refine AL.n ?_; refine AL.ra ?_; refine AL.nil (AW.ret (r1t ?_)); exact nl9
set_option maxHeartbeats 1000000 in
theorem tright_3 (fr fm : Int) (hv : V6D) (tg : List TagD) (ed : List EdgeD) (os : List OpD) : AC Try.prog 13 [(NoteD.mk 3 fr fm hv tg ed os).av] (fun r => r = .s (AB (noteB ⟨3, fr, fm, hv, tg, ed, os⟩))) := by
  change AC _ _ [.ag [AI 3, AI fr, AI fm, AI hv.a, AI hv.b, AI hv.c, AI hv.d, AI hv.e, AI hv.f, .sl (tg.map TagD.cs), .sl (ed.map EdgeD.cs), .sl (os.map OpD.cs)]] _; refine AC.of' 92 1 Try.func13 rfl ?_; change AW _ _ _ _ [TK.mk 0 .off]; refine AW.g (AL.oq (AOpB.op (oB 0 ?_))); refine AL.n ?_; refine AL.ra ?_; refine AL.nil (AW.seq (AW.g (AL.r (qa fo_28_1) ?_))); refine AL.r (ql ag_3) ?_; refine AL.r qb ?_; refine AL.rm ?_; refine AL.fk (d := 7) rfl (fun h7 => ?_) (fun h7 => ?_)
  ·refine AL.n ?_; (iterate 3 refine AL.rf ?_); refine AL.r qt ?_; refine AL.nil (AW.cond_t rfl (AW.g (AL.ra ?_))); refine AL.nil (AW.ret (r1t ?_)); exact nl9
  refine AL.n ?_; refine AL.ro (qa fo_28_1) ?_; refine AL.ro (ql ag_3) ?_; refine AL.ro qb ?_; refine AL.r qf ?_; refine AL.nil (AW.cd rfl (fun h11 => ?_) (fun h11 => ?_))
  ·refine AW.g (AL.ra ?_); refine AL.nil (AW.ret (r1t ?_)); exact nl9
  refine AW.skip (AW.g (AL.r (qa fo_28_0) ?_)); refine AL.r (ql ag_3) ?_; refine AL.r qb ?_; refine AL.ra ?_; refine AL.nil (AW.seq (AW.g (AL.rm ?_))); refine AL.r qu ?_; refine AL.rm ?_; refine AL.ro (qa fo_28_2) ?_; refine AL.ro (ql ag_3) ?_; refine AL.ro qb ?_; refine AL.ro (rd_move rfl rfl) ?_; refine AL.fk (d := 21) rfl (fun h21 => ?_) (fun h21 => ?_)
  ·refine AL.n ?_; (iterate 4 refine AL.rf ?_); refine AL.ro (rd_pick_t rfl rfl rfl) ?_; refine AL.r qt ?_; refine AL.nil (AW.cond_t rfl (AW.g (AL.ra ?_))); refine AL.nil (AW.ret (r1t ?_)); exact nl9
  refine AL.n ?_; refine AL.ro (qa fo_28_4) ?_; refine AL.ro (ql ag_24) ?_; refine AL.ro (lN el_24) ?_; refine AL.ro qb ?_; refine AL.ro (rd_pick_f rfl rfl rfl) ?_; refine AL.r qt ?_; refine AL.nil (AW.cd rfl (fun h27 => ?_) (fun h27 => ?_))
  ·refine AW.g (AL.ra ?_); refine AL.nil (AW.ret (r1t ?_)); exact nl9
  refine AW.skip (AW.seq (AW.g (AL.rm ?_))); refine AL.r qu ?_; refine AL.rm ?_; refine AL.ro (qa fo_28_0) ?_; refine AL.ro (ql ag_3) ?_; refine AL.ro qb ?_; refine AL.r qt ?_; refine AL.rm ?_; refine AL.ro (qa fo_28_3) ?_; refine AL.ro (qN ag_23) ?_; refine AL.ro (rd_buildA rfl ar_23 ze_23 rfl rfl) ?_; refine AL.ro (rd_ne_Vector rfl rfl rfl) ?_; refine AL.r qt ?_; refine AL.nil (AW.cd rfl (fun h40 => ?_) (fun h40 => ?_))
  ·refine AW.g (AL.ra ?_); refine AL.nil (AW.ret (r1t ?_)); exact nl9
  refine AW.skip (AW.seq (AW.g (AL.r (qa fo_28_0) ?_))); refine AL.r (ql ag_3) ?_; refine AL.r qb ?_; refine AL.rm ?_; refine AL.ro (qa fo_28_5) ?_; refine AL.ro (ql ag_25) ?_; refine AL.ro (lN el_25) ?_; refine AL.ro qb ?_; refine AL.r qt ?_; refine AL.rm ?_; refine AL.fk (d := 50) rfl (fun h50 => ?_) (fun h50 => ?_)
  ·refine AL.n ?_; (iterate 4 refine AL.rf ?_); (iterate 4 refine AL.ru ?_); refine AL.rf ?_; refine AL.r qt ?_; refine AL.nil (AW.cond_t rfl (AW.g (AL.ra ?_))); refine AL.nil (AW.ret (r1t ?_)); exact nl9
  refine AL.n ?_; refine AL.ro (qa fo_28_0) ?_; refine AL.ro (ql ag_3) ?_; refine AL.ro qb ?_; refine AL.ro (rd_move rfl rfl) ?_; (iterate 4 refine AL.rf ?_); refine AL.ro (rd_pick_f rfl rfl rfl) ?_; refine AL.r qf ?_; refine AL.nil (AW.cond_f rfl (AW.skip (AW.seq (AW.g (AL.r (qa fo_28_0) ?_))))); refine AL.r (ql ag_3) ?_; refine AL.nil (AW.block (AW.g (AL.r qb ?_))); refine AL.ra ?_; refine AL.nil (AW.cond_f rfl (AW.g (AL.r qb ?_))); refine AL.ra ?_; refine AL.nil (AW.cond_f rfl (AW.g (AL.r qb ?_))); refine AL.ra ?_; refine AL.nil (AW.cond_t rfl (AW.g (AL.r (qa fo_28_6) ?_))); refine AL.r (ql ag_26) ?_; refine AL.cl (chunko_c os) ?_; refine AL.n ?_; refine AL.ra ?_; refine AL.nil (AW.ret (r1t ?_))
  exact nl9
set_option maxHeartbeats 1000000 in
theorem tright_4 (fr fm : Int) (hv : V6D) (tg : List TagD) (ed : List EdgeD) (os : List OpD) : AC Try.prog 13 [(NoteD.mk 4 fr fm hv tg ed os).av] (fun r => r = .s (AB (noteB ⟨4, fr, fm, hv, tg, ed, os⟩))) := by
  change AC _ _ [.ag [AI 4, AI fr, AI fm, AI hv.a, AI hv.b, AI hv.c, AI hv.d, AI hv.e, AI hv.f, .sl (tg.map TagD.cs), .sl (ed.map EdgeD.cs), .sl (os.map OpD.cs)]] _; refine AC.of' 92 1 Try.func13 rfl ?_; change AW _ _ _ _ [TK.mk 0 .off]; refine AW.g (AL.oq (AOpB.op (oB 0 ?_))); refine AL.n ?_; refine AL.ra ?_; refine AL.nil (AW.seq (AW.g (AL.r (qa fo_28_1) ?_))); refine AL.r (ql ag_3) ?_; refine AL.r qb ?_; refine AL.rm ?_; refine AL.fk (d := 7) rfl (fun h7 => ?_) (fun h7 => ?_)
  ·refine AL.n ?_; (iterate 3 refine AL.rf ?_); refine AL.r qt ?_; refine AL.nil (AW.cond_t rfl (AW.g (AL.ra ?_))); refine AL.nil (AW.ret (r1t ?_)); exact nl9
  refine AL.n ?_; refine AL.ro (qa fo_28_1) ?_; refine AL.ro (ql ag_3) ?_; refine AL.ro qb ?_; refine AL.r qf ?_; refine AL.nil (AW.cd rfl (fun h11 => ?_) (fun h11 => ?_))
  ·refine AW.g (AL.ra ?_); refine AL.nil (AW.ret (r1t ?_)); exact nl9
  refine AW.skip (AW.g (AL.r (qa fo_28_0) ?_)); refine AL.r (ql ag_3) ?_; refine AL.r qb ?_; refine AL.ra ?_; refine AL.nil (AW.seq (AW.g (AL.rm ?_))); refine AL.r qu ?_; refine AL.rm ?_; refine AL.ro (qa fo_28_2) ?_; refine AL.ro (ql ag_3) ?_; refine AL.ro qb ?_; refine AL.ro (rd_move rfl rfl) ?_; refine AL.fk (d := 21) rfl (fun h21 => ?_) (fun h21 => ?_)
  ·refine AL.n ?_; (iterate 4 refine AL.rf ?_); refine AL.ro (rd_pick_t rfl rfl rfl) ?_; refine AL.r qt ?_; refine AL.nil (AW.cond_t rfl (AW.g (AL.ra ?_))); refine AL.nil (AW.ret (r1t ?_)); exact nl9
  refine AL.n ?_; refine AL.ro (qa fo_28_4) ?_; refine AL.ro (ql ag_24) ?_; refine AL.ro (lN el_24) ?_; refine AL.ro qb ?_; refine AL.ro (rd_pick_f rfl rfl rfl) ?_; refine AL.r qt ?_; refine AL.nil (AW.cd rfl (fun h27 => ?_) (fun h27 => ?_))
  ·refine AW.g (AL.ra ?_); refine AL.nil (AW.ret (r1t ?_)); exact nl9
  refine AW.skip (AW.seq (AW.g (AL.rm ?_))); refine AL.r qu ?_; refine AL.rm ?_; refine AL.ro (qa fo_28_0) ?_; refine AL.ro (ql ag_3) ?_; refine AL.ro qb ?_; refine AL.r qt ?_; refine AL.rm ?_; (iterate 4 refine AL.rf ?_); refine AL.r qf ?_; refine AL.nil (AW.cond_f rfl (AW.skip (AW.seq (AW.g (AL.r (qa fo_28_0) ?_))))); refine AL.r (ql ag_3) ?_; refine AL.r qb ?_; refine AL.rm ?_; refine AL.ro (qa fo_28_5) ?_; refine AL.ro (ql ag_25) ?_; refine AL.ro (lN el_25) ?_; refine AL.ro qb ?_; refine AL.r qt ?_; refine AL.rm ?_; refine AL.fk (d := 50) rfl (fun h50 => ?_) (fun h50 => ?_)
  ·refine AL.n ?_; (iterate 4 refine AL.rf ?_); (iterate 4 refine AL.ru ?_); refine AL.rf ?_; refine AL.r qt ?_; refine AL.nil (AW.cond_t rfl (AW.g (AL.ra ?_))); refine AL.nil (AW.ret (r1t ?_)); exact nl9
  refine AL.n ?_; refine AL.ro (qa fo_28_0) ?_; refine AL.ro (ql ag_3) ?_; refine AL.ro qb ?_; refine AL.ro (rd_move rfl rfl) ?_; refine AL.ro (qa fo_28_6) ?_; refine AL.ro (ql ag_26) ?_; refine AL.ro (lN el_26) ?_; refine AL.ro qb ?_; refine AL.ro (rd_pick_t rfl rfl rfl) ?_; refine AL.r qf ?_; refine AL.nil (AW.cd rfl (fun h60 => ?_) (fun h60 => ?_))
  ·refine AW.g (AL.ra ?_); refine AL.nil (AW.ret (r1t ?_)); exact nl9
  refine AW.skip (AW.seq (AW.g (AL.r (qa fo_28_0) ?_))); refine AL.r (ql ag_3) ?_; refine AL.nil (AW.block (AW.g (AL.r qb ?_))); refine AL.ra ?_; refine AL.nil (AW.cond_f rfl (AW.g (AL.r qb ?_))); refine AL.ra ?_; refine AL.nil (AW.cond_f rfl (AW.g (AL.r qb ?_))); refine AL.ra ?_; refine AL.nil (AW.cond_f rfl (AW.g (AL.r qb ?_))); refine AL.ra ?_; refine AL.nil (AW.cond_t rfl (AW.g (AL.r (qa fo_28_3) ?_))); refine AL.r (qN ag_23) ?_; refine AL.cl (dright_c hv) ?_; refine AL.n ?_; refine AL.ra ?_; refine AL.nil (AW.ret (r1t ?_))
  exact nl9
set_option maxHeartbeats 1000000 in
theorem tright_o (k : Int) (h1 : k ≠ 1) (h2 : k ≠ 2) (h3 : k ≠ 3) (h4 : k ≠ 4) (fr fm : Int) (hv : V6D) (tg : List TagD) (ed : List EdgeD) (os : List OpD) : AC Try.prog 13 [(NoteD.mk k fr fm hv tg ed os).av] (fun r => r = .s (AB (noteB ⟨k, fr, fm, hv, tg, ed, os⟩))) := by
  change AC _ _ [.ag [AI k, AI fr, AI fm, AI hv.a, AI hv.b, AI hv.c, AI hv.d, AI hv.e, AI hv.f, .sl (tg.map TagD.cs), .sl (ed.map EdgeD.cs), .sl (os.map OpD.cs)]] _; refine AC.of' 92 1 Try.func13 rfl ?_; change AW _ _ _ _ [TK.mk 0 .off]; refine AW.g (AL.oq (AOpB.op (oB 0 ?_))); refine AL.n ?_; refine AL.ra ?_; refine AL.nil (AW.seq (AW.g (AL.r (qa fo_28_1) ?_))); refine AL.r (ql ag_3) ?_; refine AL.r qb ?_; refine AL.rm ?_; refine AL.fk (d := 7) rfl (fun h7 => ?_) (fun h7 => ?_)
  ·refine AL.n ?_; (iterate 3 refine AL.rf ?_); refine AL.r qt ?_; refine AL.nil (AW.cond_t rfl (AW.g (AL.ra ?_))); refine AL.nil (AW.ret (r1t ?_)); exact nl9
  refine AL.n ?_; refine AL.ro (qa fo_28_1) ?_; refine AL.ro (ql ag_3) ?_; refine AL.ro qb ?_; refine AL.r qf ?_; refine AL.nil (AW.cd rfl (fun h11 => ?_) (fun h11 => ?_))
  ·refine AW.g (AL.ra ?_); refine AL.nil (AW.ret (r1t ?_)); exact nl9
  refine AW.skip (AW.g (AL.r (qa fo_28_0) ?_)); refine AL.r (ql ag_3) ?_; refine AL.r qb ?_; refine AL.ra ?_; refine AL.nil (AW.seq (AW.g (AL.rm ?_))); refine AL.r qu ?_; refine AL.rm ?_; refine AL.fk (d := 17) rfl (fun h17 => ?_) (fun h17 => ?_)
  ·refine AL.n ?_; refine AL.ro (qa fo_28_2) ?_; refine AL.ro (ql ag_3) ?_; refine AL.ro qb ?_; refine AL.ro (rd_move rfl rfl) ?_; refine AL.fk (d := 21) rfl (fun h21 => ?_) (fun h21 => ?_)
   ·refine AL.n ?_; (iterate 4 refine AL.rf ?_); refine AL.ro (rd_pick_t rfl rfl rfl) ?_; refine AL.r qt ?_; refine AL.nil (AW.cond_t rfl (AW.g (AL.ra ?_))); refine AL.nil (AW.ret (r1t ?_)); exact nl9
   refine AL.n ?_; refine AL.ro (qa fo_28_4) ?_; refine AL.ro (ql ag_24) ?_; refine AL.ro (lN el_24) ?_; refine AL.ro qb ?_; refine AL.ro (rd_pick_f rfl rfl rfl) ?_; refine AL.r qt ?_; refine AL.nil (AW.cd rfl (fun h27 => ?_) (fun h27 => ?_))
   ·refine AW.g (AL.ra ?_); refine AL.nil (AW.ret (r1t ?_)); exact nl9
   refine AW.skip (AW.seq (AW.g (AL.rm ?_))); refine AL.r qu ?_; refine AL.rm ?_; refine AL.fk (d := 30) rfl (fun h30 => ?_) (fun h30 => ?_)
   ·refine AL.n ?_; refine AL.ro (qa fo_28_0) ?_; refine AL.ro (ql ag_3) ?_; refine AL.ro qb ?_; refine AL.r qt ?_; refine AL.rm ?_; refine AL.fk (d := 35) rfl (fun h35 => ?_) (fun h35 => ?_)
    ·refine AL.n ?_; refine AL.ro (qa fo_28_3) ?_; refine AL.ro (qN ag_23) ?_; refine AL.ro (rd_buildA rfl ar_23 ze_23 rfl rfl) ?_; refine AL.ro (rd_ne_Vector rfl rfl rfl) ?_; refine AL.r qt ?_; refine AL.nil (AW.cd rfl (fun h40 => ?_) (fun h40 => ?_))
     ·refine AW.g (AL.ra ?_); refine AL.nil (AW.ret (r1t ?_)); exact nl9
     refine AW.skip (AW.seq (AW.g (AL.r (qa fo_28_0) ?_))); refine AL.r (ql ag_3) ?_; refine AL.r qb ?_; refine AL.rm ?_; refine AL.fk (d := 44) rfl (fun h44 => ?_) (fun h44 => ?_)
     ·refine AL.n ?_; refine AL.ro (qa fo_28_5) ?_; refine AL.ro (ql ag_25) ?_; refine AL.ro (lN el_25) ?_; refine AL.ro qb ?_; refine AL.r qt ?_; refine AL.rm ?_; refine AL.fk (d := 50) rfl (fun h50 => ?_) (fun h50 => ?_)
      ·refine AL.n ?_; (iterate 4 refine AL.rf ?_); (iterate 4 refine AL.ru ?_); refine AL.rf ?_; refine AL.r qt ?_; refine AL.nil (AW.cond_t rfl (AW.g (AL.ra ?_))); refine AL.nil (AW.ret (r1t ?_)); exact nl9
      refine AL.n ?_; refine AL.ro (qa fo_28_0) ?_; refine AL.ro (ql ag_3) ?_; refine AL.ro qb ?_; refine AL.ro (rd_move rfl rfl) ?_; refine AL.fk (d := 54) rfl (fun h54 => ?_) (fun h54 => ?_)
      ·refine AL.n ?_; refine AL.ro (qa fo_28_6) ?_; refine AL.ro (ql ag_26) ?_; refine AL.ro (lN el_26) ?_; refine AL.ro qb ?_; refine AL.ro (rd_pick_t rfl rfl rfl) ?_; refine AL.r qf ?_; refine AL.nil (AW.cd rfl (fun h60 => ?_) (fun h60 => ?_))
       ·refine AW.g (AL.ra ?_); refine AL.nil (AW.ret (r1t ?_)); exact nl9
       refine AW.skip (AW.seq (AW.g (AL.r (qa fo_28_0) ?_))); refine AL.r (ql ag_3) ?_; refine AL.nil (AW.block (AW.g (AL.r qb ?_))); refine AL.ra ?_; refine AL.nil (AW.cd rfl (fun h63 => ?_) (fun h63 => ?_))
       ·(exfalso; first | omega | (simp_all; done))
       refine AW.g (AL.r qb ?_); refine AL.ra ?_; refine AL.nil (AW.cd rfl (fun h78 => ?_) (fun h78 => ?_))
       ·(exfalso; first | omega | (simp_all; done))
       refine AW.g (AL.r qb ?_); refine AL.ra ?_; refine AL.nil (AW.cd rfl (fun h83 => ?_) (fun h83 => ?_))
       ·(exfalso; first | omega | (simp_all; done))
       refine AW.g (AL.r qb ?_); refine AL.ra ?_; refine AL.nil (AW.cd rfl (fun h88 => ?_) (fun h88 => ?_))
       ·(exfalso; first | omega | (simp_all; done))
       refine AW.skip (AW.g (AL.ra ?_)); refine AL.nil (AW.ret (r1t ?_)); exact nl9
      (exfalso; first | omega | (simp_all; done))
     (exfalso; first | omega | (simp_all; done))
    (exfalso; first | omega | (simp_all; done))
   (exfalso; first | omega | (simp_all; done))
  (exfalso; first | omega | (simp_all; done))
theorem tright_c (n : NoteD) : AC Try.prog 13 [n.av] (fun r => r = .s (AB (noteB n))) := by
  obtain ⟨k, fr, fm, hv, tg, ed, os⟩ := n
  by_cases h1 : k = 1
  · subst h1; exact tright_1 fr fm hv tg ed os
  by_cases h2 : k = 2
  · subst h2; exact tright_2 fr fm hv tg ed os
  by_cases h3 : k = 3
  · subst h3; exact tright_3 fr fm hv tg ed os
  by_cases h4 : k = 4
  · subst h4; exact tright_4 fr fm hv tg ed os
  exact tright_o k h1 h2 h3 h4 fr fm hv tg ed os
end Go.Proofs.Ytlapcfnmmpbeeaa
