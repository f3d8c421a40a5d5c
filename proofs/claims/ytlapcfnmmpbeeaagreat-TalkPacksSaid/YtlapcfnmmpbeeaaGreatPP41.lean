/- Texts of the proof of talkPacks_holds, put together by a program: TkD. -/
import Derived.Test.YtlapcfnmmpbeeaaGreatPP16
import Derived.Test.YtlapcfnmmpbeeaaGreatPP39
import Derived.Test.YtlapcfnmmpbeeaaGreatPP40
set_option linter.unusedSimpArgs false
set_option linter.unusedVariables false
namespace Go.Proofs.YtlapcfnmmpbeeaaGreat
set_option maxRecDepth 100000
set_option maxRecDepth 100000
open Go.RowKit
structure NoteD where
  kind : Int
  from_ : Int
  fmt : Int
  have_ : V6D
  tags : List TagD
  edges : List EdgeD
  ops : List OpD
deriving DecidableEq
def NoteD.cs (x : NoteD) : List AV := [AI x.kind, AI x.from_, AI x.fmt, AI x.have_.a, AI x.have_.b, AI x.have_.c, AI x.have_.d, AI x.have_.e, AI x.have_.f, .sl (x.tags.map TagD.cs), .sl (x.edges.map EdgeD.cs), .sl (x.ops.map OpD.cs)]
abbrev NoteD.av (x : NoteD) : AV := .ag x.cs
theorem noteD_iff (a b : NoteD) : a = b ↔ a.kind = b.kind ∧ a.from_ = b.from_ ∧ a.fmt = b.fmt ∧ a.have_ = b.have_ ∧ a.tags = b.tags ∧ a.edges = b.edges ∧ a.ops = b.ops := by cases a; cases b; simp
theorem nsame_c (a b : NoteD) : AC Tryz.prog 10 [a.av, b.av] (fun r => r = .s (AB (decide (a = b)))) := by
  change AC _ _ [.ag [AI a.kind, AI a.from_, AI a.fmt, AI a.have_.a, AI a.have_.b, AI a.have_.c, AI a.have_.d, AI a.have_.e, AI a.have_.f, .sl (a.tags.map TagD.cs), .sl (a.edges.map EdgeD.cs), .sl (a.ops.map OpD.cs)], .ag [AI b.kind, AI b.from_, AI b.fmt, AI b.have_.a, AI b.have_.b, AI b.have_.c, AI b.have_.d, AI b.have_.e, AI b.have_.f, .sl (b.tags.map TagD.cs), .sl (b.edges.map EdgeD.cs), .sl (b.ops.map OpD.cs)]] _; refine AC.of' 50 2 Tryz.func10 rfl ?_; change AW _ _ _ _ [TK.mk 0 .off, TK.mk 0 .off]; refine AW.seq (AW.region (AL.op rfl (AOpB.op (op_box 0 rfl rfl rfl rfl rfl ?_)))); refine AL.n ?_; refine AL.op rfl (AOpB.op (op_box 1 rfl rfl rfl rfl rfl ?_)); refine AL.n ?_; refine AL.ra ?_; refine AL.nil (AW.seq (AW.region (AL.r (qa fo_28_0) ?_))); refine AL.r (ql ag_3) ?_
  refine AL.r (qa fo_28_0) ?_; refine AL.r (ql ag_3) ?_; refine AL.r qb ?_; refine AL.rm ?_; refine AL.fk (d := 10) rfl (fun h10 => ?_) (fun h10 => ?_)
  ·refine AL.n ?_; (iterate 2 (refine AL.ro (qa fo_28_1) ?_; refine AL.ro (ql ag_3) ?_)); refine AL.ro qb ?_; refine AL.r qt ?_; refine AL.rm ?_; refine AL.fk (d := 17) rfl (fun h17 => ?_) (fun h17 => ?_)
   ·refine AL.n ?_; (iterate 2 (refine AL.ro (qa fo_28_2) ?_; refine AL.ro (ql ag_3) ?_)); refine AL.ro qb ?_; refine AL.r qt ?_; refine AL.rm ?_; refine AL.fk (d := 24) rfl (fun h24 => ?_) (fun h24 => ?_)
    ·refine AL.n ?_; (iterate 2 (refine AL.ro (qa fo_28_3) ?_; refine AL.ro (qN ag_23) ?_)); refine AL.ro (rd_eq_Vector rfl rfl rfl) ?_; refine AL.r qt ?_; refine AL.rm ?_; refine AL.fk (d := 31) rfl (fun h31 => ?_) (fun h31 => ?_)
     ·refine AL.n ?_; (iterate 2 (refine AL.ro (qa fo_28_4) ?_; refine AL.ro (ql ag_24) ?_)); refine AL.on rfl rfl rfl (AOpB.op (op_call (tequal_c a.tags b.tags) rfl (by kernel_rfl) rfl (none) ?_)); rintro r rfl; refine AL.n ?_; refine AL.r qt ?_; refine AL.rm ?_; refine AL.fk (d := 38) rfl (fun h38 => ?_) (fun h38 => ?_)
      ·refine AL.n ?_; (iterate 2 (refine AL.ro (qa fo_28_5) ?_; refine AL.ro (ql ag_25) ?_)); refine AL.on rfl rfl rfl (AOpB.op (op_call (eqe_c a.edges b.edges) rfl (by kernel_rfl) rfl (none) ?_)); rintro r rfl; refine AL.n ?_; refine AL.r qt ?_; refine AL.rm ?_; refine AL.fk (d := 45) rfl (fun h45 => ?_) (fun h45 => ?_)
       ·refine AL.n ?_; (iterate 2 (refine AL.ro (qa fo_28_6) ?_; refine AL.ro (ql ag_26) ?_)); refine AL.on rfl rfl rfl (AOpB.op (op_call (eqo_c a.ops b.ops) rfl (by kernel_rfl) rfl (none) ?_)); rintro r rfl; refine AL.n ?_; refine AL.r qt ?_; refine AL.ra ?_; refine AL.nil (AW.ret (r1t ?_))
        (refine congrArg (fun b => RS.s (AB b)) ?_; rw [Bool.eq_iff_iff]; simp_all [noteD_iff, v6_iff] <;> (intros; simp_all))
       ·refine AL.n ?_; (iterate 5 refine AL.rf ?_); refine AL.r qf ?_; refine AL.ra ?_; refine AL.nil (AW.ret (r1t ?_))
        (refine congrArg (fun b => RS.s (AB b)) ?_; rw [Bool.eq_iff_iff]; simp_all [noteD_iff, v6_iff] <;> (intros; simp_all))
      ·refine AL.n ?_; (iterate 5 refine AL.rf ?_); refine AL.r qf ?_; refine AL.rm ?_; (iterate 5 refine AL.rf ?_); refine AL.r qf ?_; refine AL.ra ?_; refine AL.nil (AW.ret (r1t ?_))
       (refine congrArg (fun b => RS.s (AB b)) ?_; rw [Bool.eq_iff_iff]; simp_all [noteD_iff, v6_iff] <;> (intros; simp_all))
     ·refine AL.n ?_; (iterate 2 ((iterate 5 refine AL.rf ?_); refine AL.r qf ?_; refine AL.rm ?_)); (iterate 5 refine AL.rf ?_); refine AL.r qf ?_; refine AL.ra ?_; refine AL.nil (AW.ret (r1t ?_))
      (refine congrArg (fun b => RS.s (AB b)) ?_; rw [Bool.eq_iff_iff]; simp_all [noteD_iff, v6_iff] <;> (intros; simp_all))
    ·refine AL.n ?_; (iterate 3 ((iterate 5 refine AL.rf ?_); refine AL.r qf ?_; refine AL.rm ?_)); (iterate 5 refine AL.rf ?_); refine AL.r qf ?_; refine AL.ra ?_; refine AL.nil (AW.ret (r1t ?_))
     (refine congrArg (fun b => RS.s (AB b)) ?_; rw [Bool.eq_iff_iff]; simp_all [noteD_iff, v6_iff] <;> (intros; simp_all))
   ·refine AL.n ?_; (iterate 4 ((iterate 5 refine AL.rf ?_); refine AL.r qf ?_; refine AL.rm ?_)); (iterate 5 refine AL.rf ?_); refine AL.r qf ?_; refine AL.ra ?_; refine AL.nil (AW.ret (r1t ?_))
    (refine congrArg (fun b => RS.s (AB b)) ?_; rw [Bool.eq_iff_iff]; simp_all [noteD_iff, v6_iff] <;> (intros; simp_all))
  ·refine AL.n ?_; (iterate 5 ((iterate 5 refine AL.rf ?_); refine AL.r qf ?_; refine AL.rm ?_)); (iterate 5 refine AL.rf ?_); refine AL.r qf ?_; refine AL.ra ?_; refine AL.nil ?_
   refine AW.ret (r1t ?_)
   (refine congrArg (fun b => RS.s (AB b)) ?_; rw [Bool.eq_iff_iff]; simp_all [noteD_iff, v6_iff] <;> (intros; simp_all))
theorem rnsame_c (a b : NoteD) (h : ∀ e ∈ a.edges, e.lens.Small) : AC Tryz.prog 11 [a.av, b.av] (fun r => r = .s (AB (decide (a = b)))) := by
  change AC _ _ [.ag [AI a.kind, AI a.from_, AI a.fmt, AI a.have_.a, AI a.have_.b, AI a.have_.c, AI a.have_.d, AI a.have_.e, AI a.have_.f, .sl (a.tags.map TagD.cs), .sl (a.edges.map EdgeD.cs), .sl (a.ops.map OpD.cs)], .ag [AI b.kind, AI b.from_, AI b.fmt, AI b.have_.a, AI b.have_.b, AI b.have_.c, AI b.have_.d, AI b.have_.e, AI b.have_.f, .sl (b.tags.map TagD.cs), .sl (b.edges.map EdgeD.cs), .sl (b.ops.map OpD.cs)]] _; refine AC.of' 50 2 Tryz.func11 rfl ?_; change AW _ _ _ _ [TK.mk 0 .off, TK.mk 0 .off]; refine AW.seq (AW.region (AL.op rfl (AOpB.op (op_box 0 rfl rfl rfl rfl rfl ?_)))); refine AL.n ?_; refine AL.op rfl (AOpB.op (op_box 1 rfl rfl rfl rfl rfl ?_)); refine AL.n ?_; refine AL.ra ?_; refine AL.nil (AW.seq (AW.region (AL.r (qa fo_28_0) ?_))); refine AL.r (ql ag_3) ?_
  refine AL.r (qa fo_28_0) ?_; refine AL.r (ql ag_3) ?_; refine AL.r qb ?_; refine AL.rm ?_; refine AL.fk (d := 10) rfl (fun h10 => ?_) (fun h10 => ?_)
  ·refine AL.n ?_; (iterate 2 (refine AL.ro (qa fo_28_1) ?_; refine AL.ro (ql ag_3) ?_)); refine AL.ro qb ?_; refine AL.r qt ?_; refine AL.rm ?_; refine AL.fk (d := 17) rfl (fun h17 => ?_) (fun h17 => ?_)
   ·refine AL.n ?_; (iterate 2 (refine AL.ro (qa fo_28_2) ?_; refine AL.ro (ql ag_3) ?_)); refine AL.ro qb ?_; refine AL.r qt ?_; refine AL.rm ?_; refine AL.fk (d := 24) rfl (fun h24 => ?_) (fun h24 => ?_)
    ·refine AL.n ?_; (iterate 2 (refine AL.ro (qa fo_28_3) ?_; refine AL.ro (qN ag_23) ?_)); refine AL.ro (rd_eq_Vector rfl rfl rfl) ?_; refine AL.r qt ?_; refine AL.rm ?_; refine AL.fk (d := 31) rfl (fun h31 => ?_) (fun h31 => ?_)
     ·refine AL.n ?_; (iterate 2 (refine AL.ro (qa fo_28_4) ?_; refine AL.ro (ql ag_24) ?_)); refine AL.on rfl rfl rfl (AOpB.op (op_call (nstags_c a.tags b.tags) rfl (by kernel_rfl) rfl (none) ?_)); rintro r rfl; refine AL.n ?_; refine AL.r qt ?_; refine AL.rm ?_; refine AL.fk (d := 38) rfl (fun h38 => ?_) (fun h38 => ?_)
      ·refine AL.n ?_; (iterate 2 (refine AL.ro (qa fo_28_5) ?_; refine AL.ro (ql ag_25) ?_)); refine AL.on rfl rfl rfl (AOpB.op (op_call (nsameedges_c a.edges b.edges h) rfl (by kernel_rfl) rfl (none) ?_)); rintro r rfl; refine AL.n ?_; refine AL.r qt ?_; refine AL.rm ?_; refine AL.fk (d := 45) rfl (fun h45 => ?_) (fun h45 => ?_)
       ·refine AL.n ?_; (iterate 2 (refine AL.ro (qa fo_28_6) ?_; refine AL.ro (ql ag_26) ?_)); refine AL.on rfl rfl rfl (AOpB.op (op_call (nsameops_c a.ops b.ops) rfl (by kernel_rfl) rfl (none) ?_)); rintro r rfl; refine AL.n ?_; refine AL.r qt ?_; refine AL.ra ?_; refine AL.nil (AW.ret (r1t ?_))
        (refine congrArg (fun b => RS.s (AB b)) ?_; rw [Bool.eq_iff_iff]; simp_all [noteD_iff, v6_iff] <;> (intros; simp_all))
       ·refine AL.n ?_; (iterate 5 refine AL.rf ?_); refine AL.r qf ?_; refine AL.ra ?_; refine AL.nil (AW.ret (r1t ?_))
        (refine congrArg (fun b => RS.s (AB b)) ?_; rw [Bool.eq_iff_iff]; simp_all [noteD_iff, v6_iff] <;> (intros; simp_all))
      ·refine AL.n ?_; (iterate 5 refine AL.rf ?_); refine AL.r qf ?_; refine AL.rm ?_; (iterate 5 refine AL.rf ?_); refine AL.r qf ?_; refine AL.ra ?_; refine AL.nil (AW.ret (r1t ?_))
       (refine congrArg (fun b => RS.s (AB b)) ?_; rw [Bool.eq_iff_iff]; simp_all [noteD_iff, v6_iff] <;> (intros; simp_all))
     ·refine AL.n ?_; (iterate 2 ((iterate 5 refine AL.rf ?_); refine AL.r qf ?_; refine AL.rm ?_)); (iterate 5 refine AL.rf ?_); refine AL.r qf ?_; refine AL.ra ?_; refine AL.nil (AW.ret (r1t ?_))
      (refine congrArg (fun b => RS.s (AB b)) ?_; rw [Bool.eq_iff_iff]; simp_all [noteD_iff, v6_iff] <;> (intros; simp_all))
    ·refine AL.n ?_; (iterate 3 ((iterate 5 refine AL.rf ?_); refine AL.r qf ?_; refine AL.rm ?_)); (iterate 5 refine AL.rf ?_); refine AL.r qf ?_; refine AL.ra ?_; refine AL.nil (AW.ret (r1t ?_))
     (refine congrArg (fun b => RS.s (AB b)) ?_; rw [Bool.eq_iff_iff]; simp_all [noteD_iff, v6_iff] <;> (intros; simp_all))
   ·refine AL.n ?_; (iterate 4 ((iterate 5 refine AL.rf ?_); refine AL.r qf ?_; refine AL.rm ?_)); (iterate 5 refine AL.rf ?_); refine AL.r qf ?_; refine AL.ra ?_; refine AL.nil (AW.ret (r1t ?_))
    (refine congrArg (fun b => RS.s (AB b)) ?_; rw [Bool.eq_iff_iff]; simp_all [noteD_iff, v6_iff] <;> (intros; simp_all))
  ·refine AL.n ?_; (iterate 5 ((iterate 5 refine AL.rf ?_); refine AL.r qf ?_; refine AL.rm ?_)); (iterate 5 refine AL.rf ?_); refine AL.r qf ?_; refine AL.ra ?_; refine AL.nil ?_
   refine AW.ret (r1t ?_)
   (refine congrArg (fun b => RS.s (AB b)) ?_; rw [Bool.eq_iff_iff]; simp_all [noteD_iff, v6_iff] <;> (intros; simp_all))
def heavyN (x : NoteD) : Bool := decide (100 < (x.tags.length : Int)) || manyB (fun e => heavyL e.lens) x.edges 12 || manyB heavyO x.ops 12
theorem rheavyn_c (a : NoteD) : AC Tryz.prog 7 [a.av] (fun r => r = .s (AB (heavyN a))) := by
  change AC _ _ [.ag [AI a.kind, AI a.from_, AI a.fmt, AI a.have_.a, AI a.have_.b, AI a.have_.c, AI a.have_.d, AI a.have_.e, AI a.have_.f, .sl (a.tags.map TagD.cs), .sl (a.edges.map EdgeD.cs), .sl (a.ops.map OpD.cs)]] _; refine AC.of' 16 1 Tryz.func7 rfl ?_; change AW _ _ _ _ [TK.mk 0 .off]; refine AW.seq (AW.region (AL.op rfl (AOpB.op (op_box 0 rfl rfl rfl rfl rfl ?_)))); refine AL.n ?_; refine AL.ra ?_; refine AL.nil (AW.seq (AW.region (AL.r (qa fo_28_4) ?_))); refine AL.r (ql ag_24) ?_; refine AL.r (rd_len_sl rfl el_24 rfl) ?_; refine AL.r qb ?_; refine AL.rm ?_; refine AL.fk (d := 7) rfl (fun h7 => ?_) (fun h7 => ?_)
  ·refine AL.n ?_; (iterate 3 refine AL.rf ?_); refine AL.r qt ?_; refine AL.rm ?_; (iterate 3 refine AL.rf ?_); refine AL.r qt ?_; refine AL.ra ?_; refine AL.nil (AW.ret (r1t ?_))
   (refine congrArg (fun b => RS.s (AB b)) ?_; unfold heavyN; simp_all <;> (intros; omega))
  ·refine AL.n ?_; refine AL.ro (qa fo_28_5) ?_; refine AL.ro (ql ag_25) ?_; refine AL.on rfl rfl rfl (AOpB.op (op_call (nheavyes_c a.edges 12) rfl (by kernel_rfl) rfl (none) ?_)); rintro r rfl; refine AL.n ?_; refine AL.r qf ?_; refine AL.rm ?_; refine AL.fk (d := 12) rfl (fun h12 => ?_) (fun h12 => ?_)
   ·refine AL.n ?_; (iterate 3 refine AL.rf ?_); refine AL.r qt ?_; refine AL.ra ?_; refine AL.nil (AW.ret (r1t ?_))
    (refine congrArg (fun b => RS.s (AB b)) ?_; unfold heavyN; simp_all <;> (intros; omega))
   ·refine AL.n ?_; refine AL.ro (qa fo_28_6) ?_; refine AL.ro (ql ag_26) ?_; refine AL.on rfl rfl rfl (AOpB.op (op_call (nheavyos_c a.ops 12) rfl (by kernel_rfl) rfl (none) ?_)); rintro r rfl; refine AL.n ?_; refine AL.r qf ?_; refine AL.ra ?_; refine AL.nil (AW.ret (r1t ?_))
    (refine congrArg (fun b => RS.s (AB b)) ?_; unfold heavyN; simp_all <;> (intros; omega))
def z6 : V6D := ⟨0, 0, 0, 0, 0, 0⟩
def frB (f : Int) : Bool := decide (1 ≤ f) && decide (f ≤ 6)
def noteB (n : NoteD) : Bool := frB n.from_ &&
  if n.kind = 1 then (n.fmt == 1 || n.fmt == 2) && vecB n.have_ && risT n.tags && decide (n.edges.length = 0) && decide (n.ops.length = 0)
  else decide (n.fmt = 0) && decide (n.tags.length = 0) &&
    if n.kind = 4 then vecB n.have_ && decide (n.edges.length = 0) && decide (n.ops.length = 0)
    else decide (n.have_ = z6) &&
      if n.kind = 2 then chB edgeB n.edges && decide (n.ops.length = 0)
      else if n.kind = 3 then chB rightO n.ops && decide (n.edges.length = 0) else false
set_option maxHeartbeats 1000000 in
theorem tright_1 (fr fm : Int) (hv : V6D) (tg : List TagD) (ed : List EdgeD) (os : List OpD) : AC Tryz.prog 8 [(NoteD.mk 1 fr fm hv tg ed os).av] (fun r => r = .s (AB (noteB ⟨1, fr, fm, hv, tg, ed, os⟩))) := by
  change AC _ _ [.ag [AI 1, AI fr, AI fm, AI hv.a, AI hv.b, AI hv.c, AI hv.d, AI hv.e, AI hv.f, .sl (tg.map TagD.cs), .sl (ed.map EdgeD.cs), .sl (os.map OpD.cs)]] _; refine AC.of' 92 1 Tryz.func8 rfl ?_; change AW _ _ _ _ [TK.mk 0 .off]; refine AW.seq (AW.region (AL.op rfl (AOpB.op (op_box 0 rfl rfl rfl rfl rfl ?_)))); refine AL.n ?_; refine AL.ra ?_; refine AL.nil (AW.seq (AW.seq (AW.region (AL.r (qa fo_28_1) ?_)))); refine AL.r (ql ag_3) ?_; refine AL.r qb ?_; refine AL.rm ?_; refine AL.fk (d := 7) rfl (fun h7 => ?_) (fun h7 => ?_)
  ·refine AL.n ?_; (iterate 3 refine AL.rf ?_); refine AL.r qt ?_; refine AL.nil (AW.cond_t rfl (AW.seq (AW.region (AL.ra ?_)))); refine AL.nil (AW.ret (r1t ?_))
   (refine congrArg (fun b => RS.s (AB b)) ?_; rw [Bool.eq_iff_iff]; simp only [noteB, frB, z6]; simp_all [-List.length_eq_zero_iff, v6_iff] <;> omega)
  ·refine AL.n ?_; refine AL.ro (qa fo_28_1) ?_; refine AL.ro (ql ag_3) ?_; refine AL.ro qb ?_; refine AL.r qf ?_; refine AL.nil (AW.cd rfl (fun h11 => ?_) (fun h11 => ?_))
   ·refine AW.seq (AW.region (AL.ra ?_)); refine AL.nil (AW.ret (r1t ?_))
    (refine congrArg (fun b => RS.s (AB b)) ?_; rw [Bool.eq_iff_iff]; simp only [noteB, frB, z6]; simp_all [-List.length_eq_zero_iff, v6_iff] <;> omega)
   ·refine AW.skip (AW.seq (AW.region (AL.r (qa fo_28_0) ?_))); refine AL.r (ql ag_3) ?_; refine AL.r qb ?_; refine AL.ra ?_; refine AL.nil (AW.seq (AW.seq (AW.region (AL.rm ?_)))); refine AL.r (rd_un rfl rfl (fun _ => rfl)) ?_; refine AL.rm ?_; (iterate 4 refine AL.rf ?_); (iterate 4 refine AL.ru ?_); refine AL.rf ?_; refine AL.r qf ?_; refine AL.nil (AW.cond_f rfl (AW.skip (AW.seq (AW.seq (AW.region (AL.rm ?_)))))); refine AL.r (rd_un rfl rfl (fun _ => rfl)) ?_; refine AL.rm ?_; (iterate 2 refine AL.rf ?_)
    refine AL.rf ?_; refine AL.r qf ?_; refine AL.rm ?_; (iterate 4 refine AL.rf ?_); refine AL.r qf ?_; refine AL.nil (AW.cond_f rfl (AW.skip (AW.seq (AW.seq (AW.region (AL.r (qa fo_28_0) ?_)))))); refine AL.r (ql ag_3) ?_; refine AL.r qb ?_; refine AL.rm ?_; refine AL.ro (qa fo_28_5) ?_; refine AL.ro (ql ag_25) ?_; refine AL.ro (rd_len_sl rfl el_25 rfl) ?_; refine AL.ro qb ?_; refine AL.r qt ?_; refine AL.rm ?_; refine AL.fk (d := 50) rfl (fun h50 => ?_) (fun h50 => ?_)
    ·refine AL.n ?_; (iterate 4 refine AL.rf ?_); (iterate 4 refine AL.ru ?_); refine AL.rf ?_; refine AL.r qt ?_; refine AL.nil (AW.cond_t rfl (AW.seq (AW.region (AL.ra ?_)))); refine AL.nil (AW.ret (r1t ?_))
     (refine congrArg (fun b => RS.s (AB b)) ?_; rw [Bool.eq_iff_iff]; simp only [noteB, frB, z6]; simp_all [-List.length_eq_zero_iff, v6_iff] <;> omega)
    ·refine AL.n ?_; refine AL.ro (qa fo_28_0) ?_; refine AL.ro (ql ag_3) ?_; refine AL.ro qb ?_; refine AL.ro (rd_move rfl rfl) ?_; refine AL.ro (qa fo_28_6) ?_; refine AL.ro (ql ag_26) ?_; refine AL.ro (rd_len_sl rfl el_26 rfl) ?_; refine AL.ro qb ?_; refine AL.ro (rd_pick_t rfl rfl rfl) ?_; refine AL.r qf ?_; refine AL.nil (AW.cd rfl (fun h60 => ?_) (fun h60 => ?_))
     ·refine AW.seq (AW.region (AL.ra ?_)); refine AL.nil (AW.ret (r1t ?_))
      (refine congrArg (fun b => RS.s (AB b)) ?_; rw [Bool.eq_iff_iff]; simp only [noteB, frB, z6]; simp_all [-List.length_eq_zero_iff, v6_iff] <;> omega)
     ·refine AW.skip (AW.seq (AW.seq (AW.region (AL.r (qa fo_28_0) ?_)))); refine AL.r (ql ag_3) ?_; refine AL.nil (AW.block (AW.seq (AW.region (AL.r qb ?_)))); refine AL.ra ?_; refine AL.nil (AW.cond_t rfl (AW.seq (AW.region (AL.r (qa fo_28_2) ?_)))); refine AL.r (ql ag_3) ?_; refine AL.op rfl (AOpB.op (op_call (cright_c fm) rfl (by kernel_rfl) rfl (none) ?_)); rintro r rfl; refine AL.n ?_; refine AL.rm ?_; refine AL.fk (d := 68) rfl (fun h68 => ?_) (fun h68 => ?_)
      ·refine AL.n ?_; refine AL.ro (qa fo_28_3) ?_; refine AL.ro (qN ag_23) ?_; refine AL.on rfl rfl rfl (AOpB.op (op_call (dright_c hv) rfl (by kernel_rfl) rfl (none) ?_)); rintro r rfl; refine AL.n ?_; refine AL.r qt ?_; refine AL.rm ?_; refine AL.fk (d := 73) rfl (fun h73 => ?_) (fun h73 => ?_)
       ·refine AL.n ?_; refine AL.ro (qa fo_28_4) ?_; refine AL.ro (ql ag_24) ?_; refine AL.on rfl rfl rfl (AOpB.op (op_call (rising_c tg) rfl (by kernel_rfl) rfl (none) ?_)); rintro r rfl; refine AL.n ?_; refine AL.r qt ?_; refine AL.ra ?_; refine AL.nil (AW.ret (r1t ?_))
        (refine congrArg (fun b => RS.s (AB b)) ?_; rw [Bool.eq_iff_iff]; simp only [noteB, frB, z6]; simp_all [-List.length_eq_zero_iff, v6_iff] <;> omega)
       ·refine AL.n ?_; (iterate 3 refine AL.rf ?_); refine AL.r qf ?_; refine AL.ra ?_; refine AL.nil (AW.ret (r1t ?_))
        (refine congrArg (fun b => RS.s (AB b)) ?_; rw [Bool.eq_iff_iff]; simp only [noteB, frB, z6]; simp_all [-List.length_eq_zero_iff, v6_iff] <;> omega)
      ·refine AL.n ?_; (iterate 3 refine AL.rf ?_); refine AL.r qf ?_; refine AL.rm ?_; (iterate 3 refine AL.rf ?_); refine AL.r qf ?_; refine AL.ra ?_; refine AL.nil (AW.ret (r1t ?_))
       (refine congrArg (fun b => RS.s (AB b)) ?_; rw [Bool.eq_iff_iff]; simp only [noteB, frB, z6]; simp_all [-List.length_eq_zero_iff, v6_iff] <;> omega)
set_option maxHeartbeats 1000000 in
theorem tright_2 (fr fm : Int) (hv : V6D) (tg : List TagD) (ed : List EdgeD) (os : List OpD) : AC Tryz.prog 8 [(NoteD.mk 2 fr fm hv tg ed os).av] (fun r => r = .s (AB (noteB ⟨2, fr, fm, hv, tg, ed, os⟩))) := by
  change AC _ _ [.ag [AI 2, AI fr, AI fm, AI hv.a, AI hv.b, AI hv.c, AI hv.d, AI hv.e, AI hv.f, .sl (tg.map TagD.cs), .sl (ed.map EdgeD.cs), .sl (os.map OpD.cs)]] _; refine AC.of' 92 1 Tryz.func8 rfl ?_; change AW _ _ _ _ [TK.mk 0 .off]; refine AW.seq (AW.region (AL.op rfl (AOpB.op (op_box 0 rfl rfl rfl rfl rfl ?_)))); refine AL.n ?_; refine AL.ra ?_; refine AL.nil (AW.seq (AW.seq (AW.region (AL.r (qa fo_28_1) ?_)))); refine AL.r (ql ag_3) ?_; refine AL.r qb ?_; refine AL.rm ?_; refine AL.fk (d := 7) rfl (fun h7 => ?_) (fun h7 => ?_)
  ·refine AL.n ?_; (iterate 3 refine AL.rf ?_); refine AL.r qt ?_; refine AL.nil (AW.cond_t rfl (AW.seq (AW.region (AL.ra ?_)))); refine AL.nil (AW.ret (r1t ?_))
   (refine congrArg (fun b => RS.s (AB b)) ?_; rw [Bool.eq_iff_iff]; simp only [noteB, frB, z6]; simp_all [-List.length_eq_zero_iff, v6_iff] <;> omega)
  ·refine AL.n ?_; refine AL.ro (qa fo_28_1) ?_; refine AL.ro (ql ag_3) ?_; refine AL.ro qb ?_; refine AL.r qf ?_; refine AL.nil (AW.cd rfl (fun h11 => ?_) (fun h11 => ?_))
   ·refine AW.seq (AW.region (AL.ra ?_)); refine AL.nil (AW.ret (r1t ?_))
    (refine congrArg (fun b => RS.s (AB b)) ?_; rw [Bool.eq_iff_iff]; simp only [noteB, frB, z6]; simp_all [-List.length_eq_zero_iff, v6_iff] <;> omega)
   ·refine AW.skip (AW.seq (AW.region (AL.r (qa fo_28_0) ?_))); refine AL.r (ql ag_3) ?_; refine AL.r qb ?_; refine AL.ra ?_; refine AL.nil (AW.seq (AW.seq (AW.region (AL.rm ?_)))); refine AL.r (rd_un rfl rfl (fun _ => rfl)) ?_; refine AL.rm ?_; refine AL.ro (qa fo_28_2) ?_; refine AL.ro (ql ag_3) ?_; refine AL.ro qb ?_; refine AL.ro (rd_move rfl rfl) ?_; refine AL.fk (d := 21) rfl (fun h21 => ?_) (fun h21 => ?_)
    ·refine AL.n ?_; (iterate 4 refine AL.rf ?_); refine AL.ro (rd_pick_t rfl rfl rfl) ?_; refine AL.r qt ?_; refine AL.nil (AW.cond_t rfl (AW.seq (AW.region (AL.ra ?_)))); refine AL.nil (AW.ret (r1t ?_))
     (refine congrArg (fun b => RS.s (AB b)) ?_; rw [Bool.eq_iff_iff]; simp only [noteB, frB, z6]; simp_all [-List.length_eq_zero_iff, v6_iff] <;> omega)
    ·refine AL.n ?_; refine AL.ro (qa fo_28_4) ?_; refine AL.ro (ql ag_24) ?_; refine AL.ro (rd_len_sl rfl el_24 rfl) ?_; refine AL.ro qb ?_; refine AL.ro (rd_pick_f rfl rfl rfl) ?_; refine AL.r qt ?_; refine AL.nil (AW.cd rfl (fun h27 => ?_) (fun h27 => ?_))
     ·refine AW.seq (AW.region (AL.ra ?_)); refine AL.nil (AW.ret (r1t ?_))
      (refine congrArg (fun b => RS.s (AB b)) ?_; rw [Bool.eq_iff_iff]; simp only [noteB, frB, z6]; simp_all [-List.length_eq_zero_iff, v6_iff] <;> omega)
     ·refine AW.skip (AW.seq (AW.seq (AW.region (AL.rm ?_)))); refine AL.r (rd_un rfl rfl (fun _ => rfl)) ?_; refine AL.rm ?_; refine AL.ro (qa fo_28_0) ?_; refine AL.ro (ql ag_3) ?_; refine AL.ro qb ?_; refine AL.r qt ?_; refine AL.rm ?_; refine AL.ro (qa fo_28_3) ?_; refine AL.ro (qN ag_23) ?_; refine AL.ro (rd_buildA rfl ar_23 ze_23 rfl rfl) ?_; refine AL.ro (rd_ne_Vector rfl rfl rfl) ?_; refine AL.r qt ?_; refine AL.nil (AW.cd rfl (fun h40 => ?_) (fun h40 => ?_))
      ·refine AW.seq (AW.region (AL.ra ?_)); refine AL.nil (AW.ret (r1t ?_))
       (refine congrArg (fun b => RS.s (AB b)) ?_; rw [Bool.eq_iff_iff]; simp only [noteB, frB, z6]; simp_all [-List.length_eq_zero_iff, v6_iff] <;> omega)
      ·refine AW.skip (AW.seq (AW.seq (AW.region (AL.r (qa fo_28_0) ?_)))); refine AL.r (ql ag_3) ?_; refine AL.r qb ?_; refine AL.rm ?_; (iterate 4 refine AL.rf ?_); refine AL.r qf ?_; refine AL.rm ?_; refine AL.ro (qa fo_28_0) ?_; refine AL.ro (ql ag_3) ?_; refine AL.ro qb ?_; refine AL.ro (rd_move rfl rfl) ?_; refine AL.ro (qa fo_28_6) ?_; refine AL.ro (ql ag_26) ?_; refine AL.ro (rd_len_sl rfl el_26 rfl) ?_; refine AL.ro qb ?_; refine AL.ro (rd_pick_t rfl rfl rfl) ?_; refine AL.r qf ?_
       refine AL.nil (AW.cd rfl (fun h60 => ?_) (fun h60 => ?_))
       ·refine AW.seq (AW.region (AL.ra ?_)); refine AL.nil (AW.ret (r1t ?_))
        (refine congrArg (fun b => RS.s (AB b)) ?_; rw [Bool.eq_iff_iff]; simp only [noteB, frB, z6]; simp_all [-List.length_eq_zero_iff, v6_iff] <;> omega)
       ·refine AW.skip (AW.seq (AW.seq (AW.region (AL.r (qa fo_28_0) ?_)))); refine AL.r (ql ag_3) ?_; refine AL.nil (AW.block (AW.seq (AW.region (AL.r qb ?_)))); refine AL.ra ?_; refine AL.nil (AW.cond_f rfl (AW.seq (AW.region (AL.r qb ?_)))); refine AL.ra ?_; refine AL.nil (AW.cond_t rfl (AW.seq (AW.region (AL.r (qa fo_28_5) ?_)))); refine AL.r (ql ag_25) ?_; refine AL.op rfl (AOpB.op (op_call (chunke_c ed) rfl (by kernel_rfl) rfl (none) ?_)); rintro r rfl; refine AL.n ?_; refine AL.ra ?_
        refine AL.nil (AW.ret (r1t ?_))
        (refine congrArg (fun b => RS.s (AB b)) ?_; rw [Bool.eq_iff_iff]; simp only [noteB, frB, z6]; simp_all [-List.length_eq_zero_iff, v6_iff] <;> omega)
set_option maxHeartbeats 1000000 in
theorem tright_3 (fr fm : Int) (hv : V6D) (tg : List TagD) (ed : List EdgeD) (os : List OpD) : AC Tryz.prog 8 [(NoteD.mk 3 fr fm hv tg ed os).av] (fun r => r = .s (AB (noteB ⟨3, fr, fm, hv, tg, ed, os⟩))) := by
  change AC _ _ [.ag [AI 3, AI fr, AI fm, AI hv.a, AI hv.b, AI hv.c, AI hv.d, AI hv.e, AI hv.f, .sl (tg.map TagD.cs), .sl (ed.map EdgeD.cs), .sl (os.map OpD.cs)]] _; refine AC.of' 92 1 Tryz.func8 rfl ?_; change AW _ _ _ _ [TK.mk 0 .off]; refine AW.seq (AW.region (AL.op rfl (AOpB.op (op_box 0 rfl rfl rfl rfl rfl ?_)))); refine AL.n ?_; refine AL.ra ?_; refine AL.nil (AW.seq (AW.seq (AW.region (AL.r (qa fo_28_1) ?_)))); refine AL.r (ql ag_3) ?_; refine AL.r qb ?_; refine AL.rm ?_; refine AL.fk (d := 7) rfl (fun h7 => ?_) (fun h7 => ?_)
  ·refine AL.n ?_; (iterate 3 refine AL.rf ?_); refine AL.r qt ?_; refine AL.nil (AW.cond_t rfl (AW.seq (AW.region (AL.ra ?_)))); refine AL.nil (AW.ret (r1t ?_))
   (refine congrArg (fun b => RS.s (AB b)) ?_; rw [Bool.eq_iff_iff]; simp only [noteB, frB, z6]; simp_all [-List.length_eq_zero_iff, v6_iff] <;> omega)
  ·refine AL.n ?_; refine AL.ro (qa fo_28_1) ?_; refine AL.ro (ql ag_3) ?_; refine AL.ro qb ?_; refine AL.r qf ?_; refine AL.nil (AW.cd rfl (fun h11 => ?_) (fun h11 => ?_))
   ·refine AW.seq (AW.region (AL.ra ?_)); refine AL.nil (AW.ret (r1t ?_))
    (refine congrArg (fun b => RS.s (AB b)) ?_; rw [Bool.eq_iff_iff]; simp only [noteB, frB, z6]; simp_all [-List.length_eq_zero_iff, v6_iff] <;> omega)
   ·refine AW.skip (AW.seq (AW.region (AL.r (qa fo_28_0) ?_))); refine AL.r (ql ag_3) ?_; refine AL.r qb ?_; refine AL.ra ?_; refine AL.nil (AW.seq (AW.seq (AW.region (AL.rm ?_)))); refine AL.r (rd_un rfl rfl (fun _ => rfl)) ?_; refine AL.rm ?_; refine AL.ro (qa fo_28_2) ?_; refine AL.ro (ql ag_3) ?_; refine AL.ro qb ?_; refine AL.ro (rd_move rfl rfl) ?_; refine AL.fk (d := 21) rfl (fun h21 => ?_) (fun h21 => ?_)
    ·refine AL.n ?_; (iterate 4 refine AL.rf ?_); refine AL.ro (rd_pick_t rfl rfl rfl) ?_; refine AL.r qt ?_; refine AL.nil (AW.cond_t rfl (AW.seq (AW.region (AL.ra ?_)))); refine AL.nil (AW.ret (r1t ?_))
     (refine congrArg (fun b => RS.s (AB b)) ?_; rw [Bool.eq_iff_iff]; simp only [noteB, frB, z6]; simp_all [-List.length_eq_zero_iff, v6_iff] <;> omega)
    ·refine AL.n ?_; refine AL.ro (qa fo_28_4) ?_; refine AL.ro (ql ag_24) ?_; refine AL.ro (rd_len_sl rfl el_24 rfl) ?_; refine AL.ro qb ?_; refine AL.ro (rd_pick_f rfl rfl rfl) ?_; refine AL.r qt ?_; refine AL.nil (AW.cd rfl (fun h27 => ?_) (fun h27 => ?_))
     ·refine AW.seq (AW.region (AL.ra ?_)); refine AL.nil (AW.ret (r1t ?_))
      (refine congrArg (fun b => RS.s (AB b)) ?_; rw [Bool.eq_iff_iff]; simp only [noteB, frB, z6]; simp_all [-List.length_eq_zero_iff, v6_iff] <;> omega)
     ·refine AW.skip (AW.seq (AW.seq (AW.region (AL.rm ?_)))); refine AL.r (rd_un rfl rfl (fun _ => rfl)) ?_; refine AL.rm ?_; refine AL.ro (qa fo_28_0) ?_; refine AL.ro (ql ag_3) ?_; refine AL.ro qb ?_; refine AL.r qt ?_; refine AL.rm ?_; refine AL.ro (qa fo_28_3) ?_; refine AL.ro (qN ag_23) ?_; refine AL.ro (rd_buildA rfl ar_23 ze_23 rfl rfl) ?_; refine AL.ro (rd_ne_Vector rfl rfl rfl) ?_; refine AL.r qt ?_; refine AL.nil (AW.cd rfl (fun h40 => ?_) (fun h40 => ?_))
      ·refine AW.seq (AW.region (AL.ra ?_)); refine AL.nil (AW.ret (r1t ?_))
       (refine congrArg (fun b => RS.s (AB b)) ?_; rw [Bool.eq_iff_iff]; simp only [noteB, frB, z6]; simp_all [-List.length_eq_zero_iff, v6_iff] <;> omega)
      ·refine AW.skip (AW.seq (AW.seq (AW.region (AL.r (qa fo_28_0) ?_)))); refine AL.r (ql ag_3) ?_; refine AL.r qb ?_; refine AL.rm ?_; refine AL.ro (qa fo_28_5) ?_; refine AL.ro (ql ag_25) ?_; refine AL.ro (rd_len_sl rfl el_25 rfl) ?_; refine AL.ro qb ?_; refine AL.r qt ?_; refine AL.rm ?_; refine AL.fk (d := 50) rfl (fun h50 => ?_) (fun h50 => ?_)
       ·refine AL.n ?_; (iterate 4 refine AL.rf ?_); (iterate 4 refine AL.ru ?_); refine AL.rf ?_; refine AL.r qt ?_; refine AL.nil (AW.cond_t rfl (AW.seq (AW.region (AL.ra ?_)))); refine AL.nil (AW.ret (r1t ?_))
        (refine congrArg (fun b => RS.s (AB b)) ?_; rw [Bool.eq_iff_iff]; simp only [noteB, frB, z6]; simp_all [-List.length_eq_zero_iff, v6_iff] <;> omega)
       ·refine AL.n ?_; refine AL.ro (qa fo_28_0) ?_; refine AL.ro (ql ag_3) ?_; refine AL.ro qb ?_; refine AL.ro (rd_move rfl rfl) ?_; (iterate 4 refine AL.rf ?_); refine AL.ro (rd_pick_f rfl rfl rfl) ?_; refine AL.r qf ?_; refine AL.nil (AW.cond_f rfl (AW.skip (AW.seq (AW.seq (AW.region (AL.r (qa fo_28_0) ?_)))))); refine AL.r (ql ag_3) ?_; refine AL.nil (AW.block (AW.seq (AW.region (AL.r qb ?_)))); refine AL.ra ?_; refine AL.nil (AW.cond_f rfl (AW.seq (AW.region ?_)))
        refine AL.r qb ?_; refine AL.ra ?_; refine AL.nil (AW.cond_f rfl (AW.seq (AW.region (AL.r qb ?_)))); refine AL.ra ?_; refine AL.nil (AW.cond_t rfl (AW.seq (AW.region (AL.r (qa fo_28_6) ?_)))); refine AL.r (ql ag_26) ?_; refine AL.op rfl (AOpB.op (op_call (chunko_c os) rfl (by kernel_rfl) rfl (none) ?_)); rintro r rfl; refine AL.n ?_; refine AL.ra ?_; refine AL.nil (AW.ret (r1t ?_))
        (refine congrArg (fun b => RS.s (AB b)) ?_; rw [Bool.eq_iff_iff]; simp only [noteB, frB, z6]; simp_all [-List.length_eq_zero_iff, v6_iff] <;> omega)
set_option maxHeartbeats 1000000 in
theorem tright_4 (fr fm : Int) (hv : V6D) (tg : List TagD) (ed : List EdgeD) (os : List OpD) : AC Tryz.prog 8 [(NoteD.mk 4 fr fm hv tg ed os).av] (fun r => r = .s (AB (noteB ⟨4, fr, fm, hv, tg, ed, os⟩))) := by
  change AC _ _ [.ag [AI 4, AI fr, AI fm, AI hv.a, AI hv.b, AI hv.c, AI hv.d, AI hv.e, AI hv.f, .sl (tg.map TagD.cs), .sl (ed.map EdgeD.cs), .sl (os.map OpD.cs)]] _; refine AC.of' 92 1 Tryz.func8 rfl ?_; change AW _ _ _ _ [TK.mk 0 .off]; refine AW.seq (AW.region (AL.op rfl (AOpB.op (op_box 0 rfl rfl rfl rfl rfl ?_)))); refine AL.n ?_; refine AL.ra ?_; refine AL.nil (AW.seq (AW.seq (AW.region (AL.r (qa fo_28_1) ?_)))); refine AL.r (ql ag_3) ?_; refine AL.r qb ?_; refine AL.rm ?_; refine AL.fk (d := 7) rfl (fun h7 => ?_) (fun h7 => ?_)
  ·refine AL.n ?_; (iterate 3 refine AL.rf ?_); refine AL.r qt ?_; refine AL.nil (AW.cond_t rfl (AW.seq (AW.region (AL.ra ?_)))); refine AL.nil (AW.ret (r1t ?_))
   (refine congrArg (fun b => RS.s (AB b)) ?_; rw [Bool.eq_iff_iff]; simp only [noteB, frB, z6]; simp_all [-List.length_eq_zero_iff, v6_iff] <;> omega)
  ·refine AL.n ?_; refine AL.ro (qa fo_28_1) ?_; refine AL.ro (ql ag_3) ?_; refine AL.ro qb ?_; refine AL.r qf ?_; refine AL.nil (AW.cd rfl (fun h11 => ?_) (fun h11 => ?_))
   ·refine AW.seq (AW.region (AL.ra ?_)); refine AL.nil (AW.ret (r1t ?_))
    (refine congrArg (fun b => RS.s (AB b)) ?_; rw [Bool.eq_iff_iff]; simp only [noteB, frB, z6]; simp_all [-List.length_eq_zero_iff, v6_iff] <;> omega)
   ·refine AW.skip (AW.seq (AW.region (AL.r (qa fo_28_0) ?_))); refine AL.r (ql ag_3) ?_; refine AL.r qb ?_; refine AL.ra ?_; refine AL.nil (AW.seq (AW.seq (AW.region (AL.rm ?_)))); refine AL.r (rd_un rfl rfl (fun _ => rfl)) ?_; refine AL.rm ?_; refine AL.ro (qa fo_28_2) ?_; refine AL.ro (ql ag_3) ?_; refine AL.ro qb ?_; refine AL.ro (rd_move rfl rfl) ?_; refine AL.fk (d := 21) rfl (fun h21 => ?_) (fun h21 => ?_)
    ·refine AL.n ?_; (iterate 4 refine AL.rf ?_); refine AL.ro (rd_pick_t rfl rfl rfl) ?_; refine AL.r qt ?_; refine AL.nil (AW.cond_t rfl (AW.seq (AW.region (AL.ra ?_)))); refine AL.nil (AW.ret (r1t ?_))
     (refine congrArg (fun b => RS.s (AB b)) ?_; rw [Bool.eq_iff_iff]; simp only [noteB, frB, z6]; simp_all [-List.length_eq_zero_iff, v6_iff] <;> omega)
    ·refine AL.n ?_; refine AL.ro (qa fo_28_4) ?_; refine AL.ro (ql ag_24) ?_; refine AL.ro (rd_len_sl rfl el_24 rfl) ?_; refine AL.ro qb ?_; refine AL.ro (rd_pick_f rfl rfl rfl) ?_; refine AL.r qt ?_; refine AL.nil (AW.cd rfl (fun h27 => ?_) (fun h27 => ?_))
     ·refine AW.seq (AW.region (AL.ra ?_)); refine AL.nil (AW.ret (r1t ?_))
      (refine congrArg (fun b => RS.s (AB b)) ?_; rw [Bool.eq_iff_iff]; simp only [noteB, frB, z6]; simp_all [-List.length_eq_zero_iff, v6_iff] <;> omega)
     ·refine AW.skip (AW.seq (AW.seq (AW.region (AL.rm ?_)))); refine AL.r (rd_un rfl rfl (fun _ => rfl)) ?_; refine AL.rm ?_; refine AL.ro (qa fo_28_0) ?_; refine AL.ro (ql ag_3) ?_; refine AL.ro qb ?_; refine AL.r qt ?_; refine AL.rm ?_; (iterate 4 refine AL.rf ?_); refine AL.r qf ?_; refine AL.nil (AW.cond_f rfl (AW.skip (AW.seq (AW.seq (AW.region (AL.r (qa fo_28_0) ?_)))))); refine AL.r (ql ag_3) ?_; refine AL.r qb ?_; refine AL.rm ?_; refine AL.ro (qa fo_28_5) ?_
      refine AL.ro (ql ag_25) ?_; refine AL.ro (rd_len_sl rfl el_25 rfl) ?_; refine AL.ro qb ?_; refine AL.r qt ?_; refine AL.rm ?_; refine AL.fk (d := 50) rfl (fun h50 => ?_) (fun h50 => ?_)
      ·refine AL.n ?_; (iterate 4 refine AL.rf ?_); (iterate 4 refine AL.ru ?_); refine AL.rf ?_; refine AL.r qt ?_; refine AL.nil (AW.cond_t rfl (AW.seq (AW.region (AL.ra ?_)))); refine AL.nil (AW.ret (r1t ?_))
       (refine congrArg (fun b => RS.s (AB b)) ?_; rw [Bool.eq_iff_iff]; simp only [noteB, frB, z6]; simp_all [-List.length_eq_zero_iff, v6_iff] <;> omega)
      ·refine AL.n ?_; refine AL.ro (qa fo_28_0) ?_; refine AL.ro (ql ag_3) ?_; refine AL.ro qb ?_; refine AL.ro (rd_move rfl rfl) ?_; refine AL.ro (qa fo_28_6) ?_; refine AL.ro (ql ag_26) ?_; refine AL.ro (rd_len_sl rfl el_26 rfl) ?_; refine AL.ro qb ?_; refine AL.ro (rd_pick_t rfl rfl rfl) ?_; refine AL.r qf ?_; refine AL.nil (AW.cd rfl (fun h60 => ?_) (fun h60 => ?_))
       ·refine AW.seq (AW.region (AL.ra ?_)); refine AL.nil (AW.ret (r1t ?_))
        (refine congrArg (fun b => RS.s (AB b)) ?_; rw [Bool.eq_iff_iff]; simp only [noteB, frB, z6]; simp_all [-List.length_eq_zero_iff, v6_iff] <;> omega)
       ·refine AW.skip (AW.seq (AW.seq (AW.region (AL.r (qa fo_28_0) ?_)))); refine AL.r (ql ag_3) ?_; refine AL.nil (AW.block (AW.seq (AW.region (AL.r qb ?_)))); refine AL.ra ?_; refine AL.nil (AW.cond_f rfl (AW.seq (AW.region (AL.r qb ?_)))); refine AL.ra ?_; refine AL.nil (AW.cond_f rfl (AW.seq (AW.region (AL.r qb ?_)))); refine AL.ra ?_; refine AL.nil (AW.cond_f rfl (AW.seq (AW.region (AL.r qb ?_)))); refine AL.ra ?_; refine AL.nil ?_
        change AW _ _ _ _ _; refine AW.cond_t rfl (AW.seq (AW.region (AL.r (qa fo_28_3) ?_))); refine AL.r (qN ag_23) ?_; refine AL.op rfl (AOpB.op (op_call (dright_c hv) rfl (by kernel_rfl) rfl (none) ?_)); rintro r rfl; refine AL.n ?_; refine AL.ra ?_; refine AL.nil (AW.ret (r1t ?_))
        (refine congrArg (fun b => RS.s (AB b)) ?_; rw [Bool.eq_iff_iff]; simp only [noteB, frB, z6]; simp_all [-List.length_eq_zero_iff, v6_iff] <;> omega)
set_option maxHeartbeats 1000000 in
theorem tright_o (k : Int) (h1 : k ≠ 1) (h2 : k ≠ 2) (h3 : k ≠ 3) (h4 : k ≠ 4) (fr fm : Int) (hv : V6D) (tg : List TagD) (ed : List EdgeD) (os : List OpD) : AC Tryz.prog 8 [(NoteD.mk k fr fm hv tg ed os).av] (fun r => r = .s (AB (noteB ⟨k, fr, fm, hv, tg, ed, os⟩))) := by
  change AC _ _ [.ag [AI k, AI fr, AI fm, AI hv.a, AI hv.b, AI hv.c, AI hv.d, AI hv.e, AI hv.f, .sl (tg.map TagD.cs), .sl (ed.map EdgeD.cs), .sl (os.map OpD.cs)]] _; refine AC.of' 92 1 Tryz.func8 rfl ?_; change AW _ _ _ _ [TK.mk 0 .off]; refine AW.seq (AW.region (AL.op rfl (AOpB.op (op_box 0 rfl rfl rfl rfl rfl ?_)))); refine AL.n ?_; refine AL.ra ?_; refine AL.nil (AW.seq (AW.seq (AW.region (AL.r (qa fo_28_1) ?_)))); refine AL.r (ql ag_3) ?_; refine AL.r qb ?_; refine AL.rm ?_; refine AL.fk (d := 7) rfl (fun h7 => ?_) (fun h7 => ?_)
  ·refine AL.n ?_; (iterate 3 refine AL.rf ?_); refine AL.r qt ?_; refine AL.nil (AW.cond_t rfl (AW.seq (AW.region (AL.ra ?_)))); refine AL.nil (AW.ret (r1t ?_))
   (refine congrArg (fun b => RS.s (AB b)) ?_; rw [Bool.eq_iff_iff]; simp only [noteB, frB, z6]; simp_all [-List.length_eq_zero_iff, v6_iff] <;> omega)
  ·refine AL.n ?_; refine AL.ro (qa fo_28_1) ?_; refine AL.ro (ql ag_3) ?_; refine AL.ro qb ?_; refine AL.r qf ?_; refine AL.nil (AW.cd rfl (fun h11 => ?_) (fun h11 => ?_))
   ·refine AW.seq (AW.region (AL.ra ?_)); refine AL.nil (AW.ret (r1t ?_))
    (refine congrArg (fun b => RS.s (AB b)) ?_; rw [Bool.eq_iff_iff]; simp only [noteB, frB, z6]; simp_all [-List.length_eq_zero_iff, v6_iff] <;> omega)
   ·refine AW.skip (AW.seq (AW.region (AL.r (qa fo_28_0) ?_))); refine AL.r (ql ag_3) ?_; refine AL.r qb ?_; refine AL.ra ?_; refine AL.nil (AW.seq (AW.seq (AW.region (AL.rm ?_)))); refine AL.r (rd_un rfl rfl (fun _ => rfl)) ?_; refine AL.rm ?_; refine AL.fk (d := 17) rfl (fun h17 => ?_) (fun h17 => ?_)
    ·refine AL.n ?_; refine AL.ro (qa fo_28_2) ?_; refine AL.ro (ql ag_3) ?_; refine AL.ro qb ?_; refine AL.ro (rd_move rfl rfl) ?_; refine AL.fk (d := 21) rfl (fun h21 => ?_) (fun h21 => ?_)
     ·refine AL.n ?_; (iterate 4 refine AL.rf ?_); refine AL.ro (rd_pick_t rfl rfl rfl) ?_; refine AL.r qt ?_; refine AL.nil (AW.cond_t rfl (AW.seq (AW.region (AL.ra ?_)))); refine AL.nil (AW.ret (r1t ?_))
      (refine congrArg (fun b => RS.s (AB b)) ?_; rw [Bool.eq_iff_iff]; simp only [noteB, frB, z6]; simp_all [-List.length_eq_zero_iff, v6_iff] <;> omega)
     ·refine AL.n ?_; refine AL.ro (qa fo_28_4) ?_; refine AL.ro (ql ag_24) ?_; refine AL.ro (rd_len_sl rfl el_24 rfl) ?_; refine AL.ro qb ?_; refine AL.ro (rd_pick_f rfl rfl rfl) ?_; refine AL.r qt ?_; refine AL.nil (AW.cd rfl (fun h27 => ?_) (fun h27 => ?_))
      ·refine AW.seq (AW.region (AL.ra ?_)); refine AL.nil (AW.ret (r1t ?_))
       (refine congrArg (fun b => RS.s (AB b)) ?_; rw [Bool.eq_iff_iff]; simp only [noteB, frB, z6]; simp_all [-List.length_eq_zero_iff, v6_iff] <;> omega)
      ·refine AW.skip (AW.seq (AW.seq (AW.region (AL.rm ?_)))); refine AL.r (rd_un rfl rfl (fun _ => rfl)) ?_; refine AL.rm ?_; refine AL.fk (d := 30) rfl (fun h30 => ?_) (fun h30 => ?_)
       ·refine AL.n ?_; refine AL.ro (qa fo_28_0) ?_; refine AL.ro (ql ag_3) ?_; refine AL.ro qb ?_; refine AL.r qt ?_; refine AL.rm ?_; refine AL.fk (d := 35) rfl (fun h35 => ?_) (fun h35 => ?_)
        ·refine AL.n ?_; refine AL.ro (qa fo_28_3) ?_; refine AL.ro (qN ag_23) ?_; refine AL.ro (rd_buildA rfl ar_23 ze_23 rfl rfl) ?_; refine AL.ro (rd_ne_Vector rfl rfl rfl) ?_; refine AL.r qt ?_; refine AL.nil (AW.cd rfl (fun h40 => ?_) (fun h40 => ?_))
         ·refine AW.seq (AW.region (AL.ra ?_)); refine AL.nil (AW.ret (r1t ?_))
          (refine congrArg (fun b => RS.s (AB b)) ?_; rw [Bool.eq_iff_iff]; simp only [noteB, frB, z6]; simp_all [-List.length_eq_zero_iff, v6_iff] <;> omega)
         ·refine AW.skip (AW.seq (AW.seq (AW.region (AL.r (qa fo_28_0) ?_)))); refine AL.r (ql ag_3) ?_; refine AL.r qb ?_; refine AL.rm ?_; refine AL.fk (d := 44) rfl (fun h44 => ?_) (fun h44 => ?_)
          ·refine AL.n ?_; refine AL.ro (qa fo_28_5) ?_; refine AL.ro (ql ag_25) ?_; refine AL.ro (rd_len_sl rfl el_25 rfl) ?_; refine AL.ro qb ?_; refine AL.r qt ?_; refine AL.rm ?_; refine AL.fk (d := 50) rfl (fun h50 => ?_) (fun h50 => ?_)
           ·refine AL.n ?_; (iterate 4 refine AL.rf ?_); (iterate 4 refine AL.ru ?_); refine AL.rf ?_; refine AL.r qt ?_; refine AL.nil (AW.cond_t rfl (AW.seq (AW.region (AL.ra ?_)))); refine AL.nil (AW.ret (r1t ?_))
            (refine congrArg (fun b => RS.s (AB b)) ?_; rw [Bool.eq_iff_iff]; simp only [noteB, frB, z6]; simp_all [-List.length_eq_zero_iff, v6_iff] <;> omega)
           ·refine AL.n ?_; refine AL.ro (qa fo_28_0) ?_; refine AL.ro (ql ag_3) ?_; refine AL.ro qb ?_; refine AL.ro (rd_move rfl rfl) ?_; refine AL.fk (d := 54) rfl (fun h54 => ?_) (fun h54 => ?_)
            ·refine AL.n ?_; refine AL.ro (qa fo_28_6) ?_; refine AL.ro (ql ag_26) ?_; refine AL.ro (rd_len_sl rfl el_26 rfl) ?_; refine AL.ro qb ?_; refine AL.ro (rd_pick_t rfl rfl rfl) ?_; refine AL.r qf ?_; refine AL.nil (AW.cd rfl (fun h60 => ?_) (fun h60 => ?_))
             ·refine AW.seq (AW.region (AL.ra ?_)); refine AL.nil (AW.ret (r1t ?_))
              (refine congrArg (fun b => RS.s (AB b)) ?_; rw [Bool.eq_iff_iff]; simp only [noteB, frB, z6]; simp_all [-List.length_eq_zero_iff, v6_iff] <;> omega)
             ·refine AW.skip (AW.seq (AW.seq (AW.region (AL.r (qa fo_28_0) ?_)))); refine AL.r (ql ag_3) ?_; refine AL.nil (AW.block (AW.seq (AW.region (AL.r qb ?_)))); refine AL.ra ?_; refine AL.nil (AW.cd rfl (fun h63 => ?_) (fun h63 => ?_))
              ·(exfalso; first | omega | (simp_all; done))
              ·refine AW.seq (AW.region (AL.r qb ?_)); refine AL.ra ?_; refine AL.nil (AW.cd rfl (fun h78 => ?_) (fun h78 => ?_))
               ·(exfalso; first | omega | (simp_all; done))
               ·refine AW.seq (AW.region (AL.r qb ?_)); refine AL.ra ?_; refine AL.nil (AW.cd rfl (fun h83 => ?_) (fun h83 => ?_))
                ·(exfalso; first | omega | (simp_all; done))
                ·refine AW.seq (AW.region (AL.r qb ?_)); refine AL.ra ?_; refine AL.nil (AW.cd rfl (fun h88 => ?_) (fun h88 => ?_))
                 ·(exfalso; first | omega | (simp_all; done))
                 ·refine AW.skip (AW.seq (AW.region (AL.ra ?_))); refine AL.nil (AW.ret (r1t ?_))
                  (refine congrArg (fun b => RS.s (AB b)) ?_; rw [Bool.eq_iff_iff]; simp only [noteB, frB, z6]; simp_all [-List.length_eq_zero_iff, v6_iff] <;> omega)
            ·(exfalso; first | omega | (simp_all; done))
          ·(exfalso; first | omega | (simp_all; done))
        ·(exfalso; first | omega | (simp_all; done))
       ·(exfalso; first | omega | (simp_all; done))
    ·(exfalso; first | omega | (simp_all; done))
theorem tright_c (n : NoteD) : AC Tryz.prog 8 [n.av] (fun r => r = .s (AB (noteB n))) := by
  obtain ⟨k, fr, fm, hv, tg, ed, os⟩ := n
  by_cases h1 : k = 1
  · subst h1; exact tright_1 fr fm hv tg ed os
  by_cases h2 : k = 2
  · subst h2; exact tright_2 fr fm hv tg ed os
  by_cases h3 : k = 3
  · subst h3; exact tright_3 fr fm hv tg ed os
  by_cases h4 : k = 4
  · subst h4; exact tright_4 fr fm hv tg ed os
  exact tright_o k h1 h2 h3 h4 fr fm hv tg ed os
end Go.Proofs.YtlapcfnmmpbeeaaGreat
