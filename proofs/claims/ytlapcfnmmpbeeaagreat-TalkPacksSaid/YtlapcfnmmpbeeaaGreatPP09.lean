/- Texts of the proof of talkPacks_holds, put together by a program: FldB. -/
import Derived.Test.YtlapcfnmmpbeeaaGreatPP07
set_option linter.unusedSimpArgs false
set_option linter.unusedVariables false
namespace Go.Proofs.YtlapcfnmmpbeeaaGreat
set_option maxRecDepth 100000
open Go.RowKit
def rightF (f : FldD) : Bool := placeB f.at_ &&
  (if f.kind = 1 then f.dflt == [] && f.cases == [] && decide (1 ≤ f.worth) && decide (f.worth ≤ 1048576)
   else if f.kind = 2 then decide (f.dflt.length ≤ 40) && f.cases == [] && f.worth == 0
   else if f.kind = 3 then casesB f.cases && f.cases.contains f.dflt && f.worth == 0
   else if f.kind = 4 then f.dflt == [] && f.cases == [] && f.worth == 0 else false)
theorem beq_dec {α : Type} [DecidableEq α] (a b : α) : (a == b) = decide (a = b) := by by_cases h : a = b <;> simp [h]
theorem len0 {α : Type} [BEq α] [LawfulBEq α] (l : List α) : ((l.length : Int) == 0) = (l == []) := by cases l <;> simp; omega
theorem right_c (f : FldD) : AC Tryz.prog 124 [f.av] (fun x => x = .s (AB (rightF f))) := by
  refine AC.of' 74 1 Tryz.func124 rfl ?_; change AW _ _ _ _ [TK.mk 0 .off]; refine AW.seq (AW.region (AL.op rfl (AOpB.op (op_box 0 rfl rfl rfl rfl rfl ?_)))); refine AL.n ?_; refine AL.ra ?_; refine AL.nil (AW.seq (AW.seq (AW.region (AL.r (qa fo_39_0) ?_)))); refine AL.r (qN ag_36) ?_; refine AL.op rfl (AOpB.op (op_call (place_c f.at_) rfl (by kernel_rfl) rfl (none) ?_)); rintro r rfl; refine AL.n ?_; refine AL.r (rd_un rfl rfl (fun _ => rfl)) ?_; refine AL.nil (AW.cd rfl (fun h7 => ?_) (fun h7 => ?_))
  ·refine AW.seq (AW.region (AL.ra ?_)); refine AL.nil (AW.ret (r1t ?_))
   (simp_all [rightF, len0] <;> (intros; omega))
  ·refine AW.skip (AW.seq (AW.region (AL.r (qa fo_39_3) ?_))); refine AL.r (ql ag_37) ?_; refine AL.r (rd_len_sl rfl el_37 rfl) ?_; refine AL.r qb ?_; refine AL.ra ?_; refine AL.nil (AW.seq (AW.seq (AW.region (AL.r (qa fo_39_1) ?_)))); refine AL.r (ql ag_3) ?_; refine AL.nil (AW.block (AW.seq (AW.region (AL.r qb ?_)))); refine AL.ra ?_; refine AL.nil (AW.cd rfl (fun h14 => ?_) (fun h14 => ?_))
   ·refine AW.seq (AW.region (AL.r (qa fo_39_2) ?_)); refine AL.r (ql ag_9) ?_; refine AL.r (rd_seq rfl rfl rfl) ?_; refine AL.rm ?_; refine AL.fk (d := 19) rfl (fun h19 => ?_) (fun h19 => ?_)
    ·refine AL.n ?_; refine AL.ro (rd_move rfl rfl) ?_; refine AL.r qt ?_; refine AL.rm ?_; refine AL.fk (d := 22) rfl (fun h22 => ?_) (fun h22 => ?_)
     ·refine AL.n ?_; refine AL.ro (qa fo_39_4) ?_; refine AL.ro (ql ag_2) ?_; refine AL.ro qb ?_; refine AL.r qt ?_; refine AL.rm ?_; refine AL.fk (d := 27) rfl (fun h27 => ?_) (fun h27 => ?_)
      ·refine AL.n ?_; refine AL.ro (qa fo_39_4) ?_; refine AL.ro (ql ag_2) ?_; refine AL.ro qb ?_; refine AL.r qt ?_; refine AL.ra ?_; refine AL.nil (AW.ret (r1t ?_))
       (simp_all [rightF, len0] <;> (intros; omega))
      ·refine AL.n ?_; (iterate 3 refine AL.rf ?_); refine AL.r qf ?_; refine AL.ra ?_; refine AL.nil (AW.ret (r1t ?_))
       (simp_all [rightF, len0] <;> (intros; omega))
     ·refine AL.n ?_; (iterate 3 refine AL.rf ?_); refine AL.r qf ?_; refine AL.rm ?_; (iterate 3 refine AL.rf ?_); refine AL.r qf ?_; refine AL.ra ?_; refine AL.nil (AW.ret (r1t ?_))
      (simp_all [rightF, len0] <;> (intros; omega))
    ·refine AL.n ?_; refine AL.rf ?_; (iterate 2 (refine AL.r qf ?_; refine AL.rm ?_; (iterate 3 refine AL.rf ?_))); refine AL.r qf ?_; refine AL.ra ?_; refine AL.nil (AW.ret (r1t ?_))
     (simp_all [rightF, len0] <;> (intros; omega))
   ·refine AW.seq (AW.region (AL.r qb ?_)); refine AL.ra ?_; refine AL.nil (AW.cd rfl (fun h32 => ?_) (fun h32 => ?_))
    ·refine AW.seq (AW.region (AL.r (qa fo_39_2) ?_)); refine AL.r (ql ag_9) ?_; refine AL.op rfl (AOpB.op (op_call (text_c _) rfl (by kernel_rfl) rfl (none) ?_)); rintro r rfl; refine AL.n ?_; refine AL.rm ?_; refine AL.fk (d := 37) rfl (fun h37 => ?_) (fun h37 => ?_)
     ·refine AL.n ?_; refine AL.ro (rd_move rfl rfl) ?_; refine AL.r qt ?_; refine AL.rm ?_; refine AL.fk (d := 40) rfl (fun h40 => ?_) (fun h40 => ?_)
      ·refine AL.n ?_; refine AL.ro (qa fo_39_4) ?_; refine AL.ro (ql ag_2) ?_; refine AL.ro qb ?_; refine AL.r qt ?_; refine AL.ra ?_; refine AL.nil (AW.ret (r1t ?_))
       (simp_all [rightF, len0] <;> (intros; omega))
      ·refine AL.n ?_; (iterate 3 refine AL.rf ?_); refine AL.r qf ?_; refine AL.ra ?_; refine AL.nil (AW.ret (r1t ?_))
       (simp_all [rightF, len0] <;> (intros; omega))
     ·refine AL.n ?_; refine AL.rf ?_; refine AL.r qf ?_; refine AL.rm ?_; (iterate 3 refine AL.rf ?_); refine AL.r qf ?_; refine AL.ra ?_; refine AL.nil (AW.ret (r1t ?_))
      (simp_all [rightF, len0] <;> (intros; omega))
    ·refine AW.seq (AW.region (AL.r qb ?_)); refine AL.ra ?_; refine AL.nil (AW.cd rfl (fun h45 => ?_) (fun h45 => ?_))
     ·refine AW.seq (AW.region (AL.r (qa fo_39_3) ?_)); refine AL.r (ql ag_37) ?_; refine AL.op rfl (AOpB.op (op_call (cases_c _) rfl (by kernel_rfl) rfl (none) ?_)); rintro r rfl; refine AL.n ?_; refine AL.rm ?_; refine AL.fk (d := 50) rfl (fun h50 => ?_) (fun h50 => ?_)
      ·refine AL.n ?_; refine AL.ro (qa fo_39_3) ?_; refine AL.ro (ql ag_37) ?_; refine AL.ro (qa fo_39_2) ?_; refine AL.ro (ql ag_9) ?_; refine AL.on rfl rfl rfl (AOpB.op (op_call (contains_c _ _) rfl (by kernel_rfl) rfl (none) ?_)); rintro r rfl; refine AL.n ?_; refine AL.r qt ?_; refine AL.rm ?_; refine AL.fk (d := 57) rfl (fun h57 => ?_) (fun h57 => ?_)
       ·refine AL.n ?_; refine AL.ro (qa fo_39_4) ?_; refine AL.ro (ql ag_2) ?_; refine AL.ro qb ?_; refine AL.r qt ?_; refine AL.ra ?_; refine AL.nil (AW.ret (r1t ?_))
        (simp_all [rightF, len0] <;> (intros; omega))
       ·refine AL.n ?_; (iterate 3 refine AL.rf ?_); refine AL.r qf ?_; refine AL.ra ?_; refine AL.nil (AW.ret (r1t ?_))
        (simp_all [rightF, len0] <;> (intros; omega))
      ·refine AL.n ?_; (iterate 5 refine AL.rf ?_); refine AL.r qf ?_; refine AL.rm ?_; (iterate 3 refine AL.rf ?_); refine AL.r qf ?_; refine AL.ra ?_; refine AL.nil (AW.ret (r1t ?_))
       (simp_all [rightF, len0] <;> (intros; omega))
     ·refine AW.seq (AW.region (AL.r qb ?_)); refine AL.ra ?_; refine AL.nil (AW.cd rfl (fun h62 => ?_) (fun h62 => ?_))
      ·refine AW.seq (AW.region (AL.r (qa fo_39_2) ?_)); refine AL.r (ql ag_9) ?_; refine AL.r (rd_seq rfl rfl rfl) ?_; refine AL.rm ?_; refine AL.fk (d := 67) rfl (fun h67 => ?_) (fun h67 => ?_)
       ·refine AL.n ?_; refine AL.ro (rd_move rfl rfl) ?_; refine AL.r qt ?_; refine AL.rm ?_; refine AL.fk (d := 70) rfl (fun h70 => ?_) (fun h70 => ?_)
        ·refine AL.n ?_; refine AL.ro (qa fo_39_4) ?_; refine AL.ro (ql ag_2) ?_; refine AL.ro qb ?_; refine AL.r qt ?_; refine AL.ra ?_; refine AL.nil (AW.ret (r1t ?_))
         (simp_all [rightF, len0] <;> (intros; omega))
        ·refine AL.n ?_; (iterate 3 refine AL.rf ?_); refine AL.r qf ?_; refine AL.ra ?_; refine AL.nil (AW.ret (r1t ?_))
         (simp_all [rightF, len0] <;> (intros; omega))
       ·refine AL.n ?_; refine AL.rf ?_; refine AL.r qf ?_; refine AL.rm ?_; (iterate 3 refine AL.rf ?_); refine AL.r qf ?_; refine AL.ra ?_; refine AL.nil (AW.ret (r1t ?_))
        (simp_all [rightF, len0] <;> (intros; omega))
      ·refine AW.skip (AW.seq (AW.region (AL.ra ?_))); refine AL.nil (AW.ret (r1t ?_))
       (simp_all [rightF, len0] <;> (intros; omega))
theorem same_c (f g : FldD) : AC Tryz.prog 132 [f.av, g.av] (fun x => x = .s (AB (decide (f = g)))) := by
  refine AC.of' 36 2 Tryz.func132 rfl ?_; change AW _ _ _ _ [TK.mk 0 .off, TK.mk 0 .off]; refine AW.seq (AW.region (AL.op rfl (AOpB.op (op_box 0 rfl rfl rfl rfl rfl ?_)))); refine AL.n ?_; refine AL.op rfl (AOpB.op (op_box 1 rfl rfl rfl rfl rfl ?_)); refine AL.n ?_; refine AL.ra ?_; refine AL.nil (AW.seq (AW.region ?_)); (iterate 2 (refine AL.r (qa fo_39_0) ?_; refine AL.r (qN ag_36) ?_)); refine AL.r (rd_eq_Ref rfl rfl rfl) ?_; refine AL.rm ?_; refine AL.fk (d := 10) rfl (fun h10 => ?_) (fun h10 => ?_)
  ·refine AL.n ?_; (iterate 2 (refine AL.ro (qa fo_39_1) ?_; refine AL.ro (ql ag_3) ?_)); refine AL.ro qb ?_; refine AL.r qt ?_; refine AL.rm ?_; refine AL.fk (d := 17) rfl (fun h17 => ?_) (fun h17 => ?_)
   ·refine AL.n ?_; (iterate 2 (refine AL.ro (qa fo_39_2) ?_; refine AL.ro (ql ag_9) ?_)); refine AL.ro (rd_seq rfl rfl rfl) ?_; refine AL.r qt ?_; refine AL.rm ?_; refine AL.fk (d := 24) rfl (fun h24 => ?_) (fun h24 => ?_)
    ·refine AL.n ?_; (iterate 2 (refine AL.ro (qa fo_39_3) ?_; refine AL.ro (ql ag_37) ?_)); refine AL.on rfl rfl rfl (AOpB.op (op_call (equal_c _ _) rfl (by kernel_rfl) rfl (none) ?_)); rintro r rfl; refine AL.n ?_; refine AL.r qt ?_; refine AL.rm ?_; refine AL.fk (d := 31) rfl (fun h31 => ?_) (fun h31 => ?_)
     ·refine AL.n ?_; (iterate 2 (refine AL.ro (qa fo_39_4) ?_; refine AL.ro (ql ag_2) ?_)); refine AL.ro qb ?_; refine AL.r qt ?_; refine AL.ra ?_; refine AL.nil (AW.ret (r1t ?_))
      (obtain ⟨⟨s1, g1, n1⟩, k1, d1, c1, w1⟩ := f; obtain ⟨⟨s2, g2, n2⟩, k2, d2, c2, w2⟩ := g; simp_all [beq_dec])
     ·refine AL.n ?_; (iterate 5 refine AL.rf ?_); refine AL.r qf ?_; refine AL.ra ?_; refine AL.nil (AW.ret (r1t ?_))
      (obtain ⟨⟨s1, g1, n1⟩, k1, d1, c1, w1⟩ := f; obtain ⟨⟨s2, g2, n2⟩, k2, d2, c2, w2⟩ := g; simp_all [beq_dec])
    ·refine AL.n ?_; (iterate 5 refine AL.rf ?_); refine AL.r qf ?_; refine AL.rm ?_; (iterate 5 refine AL.rf ?_); refine AL.r qf ?_; refine AL.ra ?_; refine AL.nil (AW.ret (r1t ?_))
     (obtain ⟨⟨s1, g1, n1⟩, k1, d1, c1, w1⟩ := f; obtain ⟨⟨s2, g2, n2⟩, k2, d2, c2, w2⟩ := g; simp_all [beq_dec])
   ·refine AL.n ?_; (iterate 2 ((iterate 5 refine AL.rf ?_); refine AL.r qf ?_; refine AL.rm ?_)); (iterate 5 refine AL.rf ?_); refine AL.r qf ?_; refine AL.ra ?_; refine AL.nil (AW.ret (r1t ?_))
    (obtain ⟨⟨s1, g1, n1⟩, k1, d1, c1, w1⟩ := f; obtain ⟨⟨s2, g2, n2⟩, k2, d2, c2, w2⟩ := g; simp_all [beq_dec])
  ·refine AL.n ?_; (iterate 3 ((iterate 5 refine AL.rf ?_); refine AL.r qf ?_; refine AL.rm ?_)); (iterate 5 refine AL.rf ?_); refine AL.r qf ?_; refine AL.ra ?_; refine AL.nil (AW.ret (r1t ?_))
   (obtain ⟨⟨s1, g1, n1⟩, k1, d1, c1, w1⟩ := f; obtain ⟨⟨s2, g2, n2⟩, k2, d2, c2, w2⟩ := g; simp_all [beq_dec])
end Go.Proofs.YtlapcfnmmpbeeaaGreat
