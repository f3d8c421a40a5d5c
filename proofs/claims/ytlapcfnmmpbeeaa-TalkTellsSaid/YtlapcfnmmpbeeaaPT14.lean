/- A part of a proof. -/
import Derived.Test.YtlapcfnmmpbeeaaPT09
import Derived.Test.YtlapcfnmmpbeeaaPT13
set_option linter.unusedSimpArgs false
set_option linter.unusedVariables false
namespace Go.Proofs.Ytlapcfnmmpbeeaa
set_option maxRecDepth 100000
open Go.RowKit
theorem opD_iff (a b : OpD) : a = b ↔ a.id = b.id ∧ a.schema = b.schema ∧ a.time = b.time ∧ a.cart = b.cart ∧ a.kind = b.kind ∧ a.item = b.item ∧ a.at_ = b.at_ ∧ a.delta = b.delta ∧ a.has = b.has ∧ a.text = b.text ∧ a.drops = b.drops := by
  cases a; cases b; simp
theorem tagD_iff (a b : TagD) : a = b ↔ a.rep = b.rep ∧ a.n = b.n := by cases a; cases b; simp
theorem refD_iff (a b : RefD) : a = b ↔ a.scope = b.scope ∧ a.group = b.group ∧ a.name = b.name := by cases a; cases b; simp
def parts3 (o : OpD) : OpD := ⟨o.id, o.schema, o.time, o.cart, o.kind, if o.at_.scope = 1 then o.item else [], o.at_, o.delta, false, [], []⟩
set_option maxHeartbeats 1000000 in
theorem parts3_c (o : OpD) (h : o.kind = 3) : AC Try.prog 67 [o.av] (fun r => r = .s (.tu [(parts3 o).av, AB true])) := by
  change AC _ _ [.ag [AI o.id.rep, AI o.id.n, AI o.schema.rep, AI o.schema.n, AI o.time, AS o.cart, AI o.kind, AS o.item, AI o.at_.scope, AS o.at_.group, AS o.at_.name, AI o.delta, AB o.has, AS o.text, .sl (o.drops.map TagD.cs)]] _; refine AC.of' 72 3 Try.func67 rfl ?_; change AW _ _ _ _ [TK.mk 0 .off, TK.mk 0 .off, TK.mk 0 .off]; refine AW.g (AL.oq (AOpB.op (oB 0 ?_))); refine AL.n ?_; refine AL.oq (AOpB.op (oA 1 ze_67 ?_)); refine AL.n ?_; refine AL.ra ?_; refine AL.nil (AW.g (AL.r (qa fo_67_0) ?_)); refine AL.r (qN ag_51) ?_; refine AL.r (qa fo_67_1) ?_; refine AL.r (qN ag_51) ?_; refine AL.r (qa fo_67_2) ?_; refine AL.r (ql ag_2) ?_; refine AL.r (qa fo_67_3) ?_; refine AL.r (ql ag_9) ?_; refine AL.r (qa fo_67_4) ?_; refine AL.r (ql ag_3) ?_; refine AL.r (qB pl_67 ze_67) ?_; refine AL.oq (AOpB.op (oA 2 ze_67 ?_)); refine AL.n ?_; refine AL.oq (oS sz_67 ?_); refine AL.b ?_; refine AL.nil (AW.seq (AW.g (AL.b ?_))); refine AL.r (qa fo_67_4) ?_; refine AL.r (ql ag_3) ?_; refine AL.nil (AW.block (AW.g (AL.r qb ?_)))
  refine AL.ra ?_; refine AL.nil (AW.cd rfl (fun h19 => ?_) (fun h19 => ?_))
  ·omega
  refine AW.g (AL.r qb ?_); refine AL.ra ?_; refine AL.nil (AW.cd rfl (fun h24 => ?_) (fun h24 => ?_))
  ·omega
  refine AW.g (AL.r qb ?_); refine AL.ra ?_; refine AL.nil (AW.cd rfl (fun h32 => ?_) (fun h32 => ?_))
  ·refine AW.drawX 2 (by kernel_rfl) ?_; refine ADX.r 0 rfl (xa fo_67_6) rfl ?_; refine ADX.r 1 rfl (xN ag_55) rfl ?_; refine ADX.r 2 rfl (xa fo_67_7) rfl ?_; refine ADX.r 3 rfl (xl ag_2) rfl ?_; refine ADX.r 4 rfl (xa fo_67_6) rfl ?_; refine ADX.stor 5 rfl (by kernel_rfl) rfl rfl rfl rfl rfl rfl sz_55 ?_; refine ADX.n ?_; refine ADX.r 6 rfl (xa fo_67_7) rfl ?_; refine ADX.stor 7 rfl (by kernel_rfl) rfl rfl rfl rfl rfl rfl sz_2 ?_; refine ADX.n ?_; refine ADX.done (by kernel_rfl) ?_; change AW _ _ _ _ _; refine AW.seq (AW.g (AL.r (qN ag_67) ?_)); refine AL.oq (AOpB.op (op_call (placed_c o) rfl (by kernel_rfl) rfl (none) ?_)); rintro r rfl; refine AL.n ?_; refine AL.rm ?_; refine AL.fk (d := 63) rfl (fun h63 => ?_) (fun h63 => ?_)
   ·refine AL.n ?_; refine AL.ro (qa fo_67_6) ?_; refine AL.ro (qa fo_55_0) ?_; refine AL.ro (ql ag_3) ?_; refine AL.ro qb ?_; refine AL.r qt ?_; refine AL.nil (AW.cd rfl (fun h68 => ?_) (fun h68 => ?_))
    ·refine AW.region (AL.r (qa fo_67_5) ?_); refine AL.r (ql ag_9) ?_; refine AL.r (qa fo_67_5) ?_; refine AL.oq (oS sz_9 ?_); refine AL.b ?_; refine AL.nil (AW.g (AL.r (qN ag_67) ?_)); refine AL.oq (oS sz_67 ?_); refine AL.b ?_; refine AL.ra ?_; refine AL.nil (AW.ret ?_); refine r2 ag_67 ?_; simp_all [parts3, OpD.cs]
    refine AW.skip (AW.g (AL.r (qN ag_67) ?_)); refine AL.oq (oS sz_67 ?_); refine AL.b ?_; refine AL.ra ?_; refine AL.nil (AW.ret ?_); refine r2 ag_67 ?_; simp_all [parts3, OpD.cs]
   refine AL.n ?_; (iterate 4 refine AL.rf ?_); refine AL.r qf ?_; refine AL.nil (AW.cond_f rfl (AW.skip (AW.g (AL.r (qN ag_67) ?_)))); refine AL.oq (oS sz_67 ?_); refine AL.b ?_; refine AL.ra ?_; refine AL.nil (AW.ret ?_); refine r2 ag_67 ?_; simp_all [parts3, OpD.cs]
  refine AW.seq ?_; omega
theorem nl3 {a b : Bool} (h : a = b := by rw [Bool.eq_iff_iff]; simp_all [opD_iff, tagD_iff, refD_iff] <;> (intros; simp_all)) : RS.s (AB a) = RS.s (AB b) := sb h
theorem osame_c (a b : OpD) : AC Try.prog 68 [a.av, b.av] (fun r => r = .s (AB (decide (a = b)))) := by
  refine AC.of' 78 2 Try.func68 rfl ?_; change AW _ _ _ _ [TK.mk 0 .off, TK.mk 0 .off]; refine AW.g (AL.oq (AOpB.op (oB 0 ?_))); refine AL.n ?_; refine AL.oq (AOpB.op (oB 1 ?_)); refine AL.n ?_; refine AL.ra ?_; refine AL.nil (AW.g ?_); (iterate 2 (refine AL.r (qa fo_67_0) ?_; refine AL.r (qN ag_51) ?_)); refine AL.r (rd_eq_Tag rfl rfl rfl) ?_; refine AL.rm ?_; refine AL.fk (d := 10) rfl (fun h10 => ?_) (fun h10 => ?_)
  ·refine AL.n ?_; (iterate 2 (refine AL.ro (qa fo_67_1) ?_; refine AL.ro (qN ag_51) ?_)); refine AL.ro (rd_eq_Tag rfl rfl rfl) ?_; refine AL.r qt ?_; refine AL.rm ?_; refine AL.fk (d := 17) rfl (fun h17 => ?_) (fun h17 => ?_)
   ·refine AL.n ?_; (iterate 2 (refine AL.ro (qa fo_67_2) ?_; refine AL.ro (ql ag_2) ?_)); refine AL.ro qb ?_; refine AL.r qt ?_; refine AL.rm ?_; refine AL.fk (d := 24) rfl (fun h24 => ?_) (fun h24 => ?_)
    ·refine AL.n ?_; (iterate 2 (refine AL.ro (qa fo_67_3) ?_; refine AL.ro (ql ag_9) ?_)); refine AL.ro (rd_seq rfl rfl rfl) ?_; refine AL.r qt ?_; refine AL.rm ?_; refine AL.fk (d := 31) rfl (fun h31 => ?_) (fun h31 => ?_)
     ·refine AL.n ?_; (iterate 2 (refine AL.ro (qa fo_67_4) ?_; refine AL.ro (ql ag_3) ?_)); refine AL.ro qb ?_; refine AL.r qt ?_; refine AL.rm ?_; refine AL.fk (d := 38) rfl (fun h38 => ?_) (fun h38 => ?_)
      ·refine AL.n ?_; (iterate 2 (refine AL.ro (qa fo_67_5) ?_; refine AL.ro (ql ag_9) ?_)); refine AL.ro (rd_seq rfl rfl rfl) ?_; refine AL.r qt ?_; refine AL.rm ?_; refine AL.fk (d := 45) rfl (fun h45 => ?_) (fun h45 => ?_)
       ·refine AL.n ?_; (iterate 2 (refine AL.ro (qa fo_67_6) ?_; refine AL.ro (qN ag_55) ?_)); refine AL.ro (rd_eq_Ref rfl rfl rfl) ?_; refine AL.r qt ?_; refine AL.rm ?_; refine AL.fk (d := 52) rfl (fun h52 => ?_) (fun h52 => ?_)
        ·refine AL.n ?_; (iterate 2 (refine AL.ro (qa fo_67_7) ?_; refine AL.ro (ql ag_2) ?_)); refine AL.ro qb ?_; refine AL.r qt ?_; refine AL.rm ?_; refine AL.fk (d := 59) rfl (fun h59 => ?_) (fun h59 => ?_)
         ·refine AL.n ?_; (iterate 2 (refine AL.ro (qa fo_67_8) ?_; refine AL.ro (ql ag_4) ?_)); refine AL.ro (rd_beql rfl bo_4 rfl rfl) ?_; refine AL.r qt ?_; refine AL.rm ?_; refine AL.fk (d := 66) rfl (fun h66 => ?_) (fun h66 => ?_)
          ·refine AL.n ?_; (iterate 2 (refine AL.ro (qa fo_67_9) ?_; refine AL.ro (ql ag_9) ?_)); refine AL.ro (rd_seq rfl rfl rfl) ?_; refine AL.r qt ?_; refine AL.rm ?_; refine AL.fk (d := 73) rfl (fun h73 => ?_) (fun h73 => ?_)
           ·refine AL.n ?_; (iterate 2 (refine AL.ro (qa fo_67_10) ?_; refine AL.ro (ql ag_24) ?_)); refine AL.on rfl rfl rfl (AOpB.op (op_call (tequal_c a.drops b.drops) rfl (by kernel_rfl) rfl (none) ?_)); rintro r rfl; refine AL.n ?_; refine AL.r qt ?_; refine AL.ra ?_; refine AL.nil (AW.ret (r1t ?_)); exact nl3
           refine AL.n ?_; (iterate 5 refine AL.rf ?_); refine AL.r qf ?_; refine AL.ra ?_; refine AL.nil (AW.ret (r1t ?_)); exact nl3
          refine AL.n ?_; (iterate 5 refine AL.rf ?_); refine AL.r qf ?_; refine AL.rm ?_; (iterate 5 refine AL.rf ?_); refine AL.r qf ?_; refine AL.ra ?_; refine AL.nil (AW.ret (r1t ?_)); exact nl3
         refine AL.n ?_; (iterate 2 ((iterate 5 refine AL.rf ?_); refine AL.r qf ?_; refine AL.rm ?_)); (iterate 5 refine AL.rf ?_); refine AL.r qf ?_; refine AL.ra ?_; refine AL.nil (AW.ret (r1t ?_)); exact nl3
        refine AL.n ?_; (iterate 3 ((iterate 5 refine AL.rf ?_); refine AL.r qf ?_; refine AL.rm ?_)); (iterate 5 refine AL.rf ?_); refine AL.r qf ?_; refine AL.ra ?_; refine AL.nil (AW.ret (r1t ?_)); exact nl3
       refine AL.n ?_; (iterate 4 ((iterate 5 refine AL.rf ?_); refine AL.r qf ?_; refine AL.rm ?_)); (iterate 5 refine AL.rf ?_); refine AL.r qf ?_; refine AL.ra ?_; refine AL.nil (AW.ret (r1t ?_)); exact nl3
      refine AL.n ?_; (iterate 5 ((iterate 5 refine AL.rf ?_); refine AL.r qf ?_; refine AL.rm ?_)); (iterate 5 refine AL.rf ?_); refine AL.r qf ?_; refine AL.ra ?_; refine AL.nil (AW.ret (r1t ?_)); exact nl3
     refine AL.n ?_; (iterate 6 ((iterate 5 refine AL.rf ?_); refine AL.r qf ?_; refine AL.rm ?_)); (iterate 2 refine AL.rf ?_)
     (iterate 3 refine AL.rf ?_); refine AL.r qf ?_; refine AL.ra ?_; refine AL.nil (AW.ret (r1t ?_))
     exact nl3
    refine AL.n ?_; (iterate 6 ((iterate 5 refine AL.rf ?_); refine AL.r qf ?_; refine AL.rm ?_)); (iterate 2 refine AL.rf ?_)
    (iterate 3 refine AL.rf ?_); refine AL.r qf ?_; refine AL.rm ?_; (iterate 5 refine AL.rf ?_); refine AL.r qf ?_; refine AL.ra ?_; refine AL.nil (AW.ret (r1t ?_))
    exact nl3
   refine AL.n ?_; (iterate 6 ((iterate 5 refine AL.rf ?_); refine AL.r qf ?_; refine AL.rm ?_)); (iterate 2 refine AL.rf ?_)
   (iterate 3 refine AL.rf ?_); (iterate 2 (refine AL.r qf ?_; refine AL.rm ?_; (iterate 5 refine AL.rf ?_))); refine AL.r qf ?_; refine AL.ra ?_; refine AL.nil (AW.ret (r1t ?_))
   exact nl3
  refine AL.n ?_; (iterate 6 ((iterate 5 refine AL.rf ?_); refine AL.r qf ?_; refine AL.rm ?_)); (iterate 2 refine AL.rf ?_)
  (iterate 3 refine AL.rf ?_); (iterate 3 (refine AL.r qf ?_; refine AL.rm ?_; (iterate 5 refine AL.rf ?_))); refine AL.r qf ?_; refine AL.ra ?_; refine AL.nil (AW.ret (r1t ?_))
  exact nl3
end Go.Proofs.Ytlapcfnmmpbeeaa
