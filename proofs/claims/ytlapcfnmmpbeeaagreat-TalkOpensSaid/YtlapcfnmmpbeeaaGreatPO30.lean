/- A part of a proof. -/
import Derived.Test.YtlapcfnmmpbeeaaGreatPO23
import Derived.Test.YtlapcfnmmpbeeaaGreatPO29
set_option linter.unusedSimpArgs false
set_option linter.unusedVariables false
namespace Go.Proofs.YtlapcfnmmpbeeaaGreat
set_option maxRecDepth 100000
set_option maxRecDepth 100000
open Go.RowKit
structure V6D where
  a : Int
  b : Int
  c : Int
  d : Int
  e : Int
  f : Int
deriving DecidableEq
def V6D.cs (v : V6D) : List AV := [AI v.a, AI v.b, AI v.c, AI v.d, AI v.e, AI v.f]
abbrev V6D.av (v : V6D) : AV := .ag v.cs
structure EdgeD where
  id : TagD
  par : TagD
  lens : LensD
deriving DecidableEq
def EdgeD.cs (x : EdgeD) : List AV := [AI x.id.rep, AI x.id.n, AI x.par.rep, AI x.par.n, AI x.lens.kind, AI x.lens.at_.scope, AS x.lens.at_.group, AS x.lens.at_.name, AS x.lens.name, AS x.lens.other, AI x.lens.factor, AI x.lens.field.at_.scope, AS x.lens.field.at_.group, AS x.lens.field.at_.name, AI x.lens.field.kind, AS x.lens.field.dflt, .sl (csS x.lens.field.cases), AI x.lens.field.worth, .sl (x.lens.forth.map PairD.cs), .sl (x.lens.back.map PairD.cs)]
theorem jLI {l : List EdgeD} {k : Nat} (h : k < l.length) : (l.map EdgeD.cs)[k]? = some [AI (l[k]'h).id.rep, AI (l[k]'h).id.n, AI (l[k]'h).par.rep, AI (l[k]'h).par.n, AI (l[k]'h).lens.kind, AI (l[k]'h).lens.at_.scope, AS (l[k]'h).lens.at_.group, AS (l[k]'h).lens.at_.name, AS (l[k]'h).lens.name, AS (l[k]'h).lens.other, AI (l[k]'h).lens.factor, AI (l[k]'h).lens.field.at_.scope, AS (l[k]'h).lens.field.at_.group, AS (l[k]'h).lens.field.at_.name, AI (l[k]'h).lens.field.kind, AS (l[k]'h).lens.field.dflt, .sl (csS (l[k]'h).lens.field.cases), AI (l[k]'h).lens.field.worth, .sl ((l[k]'h).lens.forth.map PairD.cs), .sl ((l[k]'h).lens.back.map PairD.cs)] := jAy h
theorem jLE {l : List OpD} {k : Nat} (h : k < l.length) : (l.map OpD.cs)[k]? = some [AI (l[k]'h).id.rep, AI (l[k]'h).id.n, AI (l[k]'h).schema.rep, AI (l[k]'h).schema.n, AI (l[k]'h).time, AS (l[k]'h).cart, AI (l[k]'h).kind, AS (l[k]'h).item, AI (l[k]'h).at_.scope, AS (l[k]'h).at_.group, AS (l[k]'h).at_.name, AI (l[k]'h).delta, AB (l[k]'h).has, AS (l[k]'h).text, .sl ((l[k]'h).drops.map TagD.cs)] := jAy h
abbrev EdgeD.av (x : EdgeD) : AV := .ag x.cs
theorem jFk (a b : V6D) : a = b ↔ a.a = b.a ∧ a.b = b.b ∧ a.c = b.c ∧ a.d = b.d ∧ a.e = b.e ∧ a.f = b.f := by cases a; cases b; simp
theorem jMa (a b : EdgeD) : a = b ↔ a.id = b.id ∧ a.par = b.par ∧ a.lens = b.lens := by cases a; cases b; simp
theorem jLS (a0 a1 a2 a3 a4 a5 b0 b1 b2 b3 b4 b5 : Int) (w : World) : (Op.equalIn 10000 23 (.agg #[.int .i64 a0, .int .i64 a1, .int .i64 a2, .int .i64 a3, .int .i64 a4, .int .i64 a5]) (.agg #[.int .i64 b0, .int .i64 b1, .int .i64 b2, .int .i64 b3, .int .i64 b4, .int .i64 b5])).run Tryz.prog w = .ok (decide (V6D.mk a0 a1 a2 a3 a4 a5 = V6D.mk b0 b1 b2 b3 b4 b5)) w := by
  rw [jJQ 9999 (fun a b w => run_equalIn_int w 9998 3 .i64 .i64 a b Tryz.underlying3) a0 a1 a2 a3 a4 a5 b0 b1 b2 b3 b4 b5 w]
  congr 1
  rw [decide_eq_decide, jFk]
theorem jMQ (x y : Operand) (a0 a1 a2 a3 a4 a5 b0 b1 b2 b3 b4 b5 : Int) (w : World) : (eqGuard .eql 23 x y (.agg #[.int .i64 a0, .int .i64 a1, .int .i64 a2, .int .i64 a3, .int .i64 a4, .int .i64 a5]) (.agg #[.int .i64 b0, .int .i64 b1, .int .i64 b2, .int .i64 b3, .int .i64 b4, .int .i64 b5]) >>= fun _ => binOp .eql 23 (.agg #[.int .i64 a0, .int .i64 a1, .int .i64 a2, .int .i64 a3, .int .i64 a4, .int .i64 a5]) (.agg #[.int .i64 b0, .int .i64 b1, .int .i64 b2, .int .i64 b3, .int .i64 b4, .int .i64 b5])).run Tryz.prog w = .ok (.bool (decide (V6D.mk a0 a1 a2 a3 a4 a5 = V6D.mk b0 b1 b2 b3 b4 b5))) w := by
  have h := jLS a0 a1 a2 a3 a4 a5 b0 b1 b2 b3 b4 b5 w
  go_simp <;> rw [h]
theorem jL2 (x y : Operand) (a0 a1 a2 a3 a4 a5 b0 b1 b2 b3 b4 b5 : Int) (w : World) : (eqGuard .neq 23 x y (.agg #[.int .i64 a0, .int .i64 a1, .int .i64 a2, .int .i64 a3, .int .i64 a4, .int .i64 a5]) (.agg #[.int .i64 b0, .int .i64 b1, .int .i64 b2, .int .i64 b3, .int .i64 b4, .int .i64 b5]) >>= fun _ => binOp .neq 23 (.agg #[.int .i64 a0, .int .i64 a1, .int .i64 a2, .int .i64 a3, .int .i64 a4, .int .i64 a5]) (.agg #[.int .i64 b0, .int .i64 b1, .int .i64 b2, .int .i64 b3, .int .i64 b4, .int .i64 b5])).run Tryz.prog w = .ok (.bool (!decide (V6D.mk a0 a1 a2 a3 a4 a5 = V6D.mk b0 b1 b2 b3 b4 b5))) w := by
  have h := jLS a0 a1 a2 a3 a4 a5 b0 b1 b2 b3 b4 b5 w
  go_simp <;> rw [h]
section
variable {o : Oper} {t : List AV} {st : List TK} {x y : Operand} {yt : TypeId} {a0 a1 a2 a3 a4 a5 b0 b1 b2 b3 b4 b5 : Int}
theorem jGj (ho : o.op = .binOp .eql 23 x y yt) (hx : evV t x = some (.agg #[.int .i64 a0, .int .i64 a1, .int .i64 a2, .int .i64 a3, .int .i64 a4, .int .i64 a5])) (hy : evV t y = some (.agg #[.int .i64 b0, .int .i64 b1, .int .i64 b2, .int .i64 b3, .int .i64 b4, .int .i64 b5])) : ARd Tryz.prog o t st (AB (decide (V6D.mk a0 a1 a2 a3 a4 a5 = V6D.mk b0 b1 b2 b3 b4 b5))) := jC6 ho hx hy (jMQ x y a0 a1 a2 a3 a4 a5 b0 b1 b2 b3 b4 b5)
theorem jCT (ho : o.op = .binOp .neq 23 x y yt) (hx : evV t x = some (.agg #[.int .i64 a0, .int .i64 a1, .int .i64 a2, .int .i64 a3, .int .i64 a4, .int .i64 a5])) (hy : evV t y = some (.agg #[.int .i64 b0, .int .i64 b1, .int .i64 b2, .int .i64 b3, .int .i64 b4, .int .i64 b5])) : ARd Tryz.prog o t st (AB (!decide (V6D.mk a0 a1 a2 a3 a4 a5 = V6D.mk b0 b1 b2 b3 b4 b5))) := jC6 ho hx hy (jL2 x y a0 a1 a2 a3 a4 a5 b0 b1 b2 b3 b4 b5)
end
def inB (n : Int) : Bool := decide (0 ≤ n) && decide (n ≤ 400)
def vecB (v : V6D) : Bool := inB v.a && inB v.b && inB v.c && inB v.d && inB v.e && inB v.f
theorem nl8 {a b : Bool} (h : a = b := by simp_all [vecB, inB] <;> omega) : RS.s (AB a) = RS.s (AB b) := sb h
theorem jKs (v : V6D) : AC Tryz.prog 21 [v.av] (fun r => r = .s (AB (vecB v))) := by
  change AC _ _ [.ag [AI v.a, AI v.b, AI v.c, AI v.d, AI v.e, AI v.f]] _; refine AC.of' 15 1 Tryz.func21 rfl ?_; change AW _ _ _ _ [TK.mk 0 .off]; refine AW.g (AL.oq (AOpB.op (oB 0 ?_))); refine AL.n ?_; refine AL.ra ?_; refine AL.nil (AW.seq (AW.g (AL.r (qN jDW) ?_))); refine AL.rm ?_; refine AL.nil (AW.block (AW.unroll 7 ?_)); change AW _ _ _ _ _; refine AW.g (AL.r qb ?_); refine AL.nil (AW.seq (AW.cond_t rfl (AW.skip (AW.seq (AW.block (AW.g (AL.r (jDg (i := 0) rfl jBS ag_3 rfl rfl (by first | rfl | omega) (by decide) rfl) ?_))))))); refine AL.ra ?_; refine AL.nil (AW.g (AL.rm ?_)); refine AL.r qb ?_; refine AL.rm ?_; refine AL.fk (d := 11) rfl (fun h11 => ?_) (fun h11 => ?_)
  ·refine AL.n ?_; (iterate 2 refine AL.rf ?_); refine AL.r qt ?_; refine AL.nil (AW.cond_t rfl (AW.g (AL.ra ?_))); refine AL.nil (AW.ret (r1t ?_)); exact nl8
  refine AL.n ?_; refine AL.ro (jAa rfl rfl) ?_; refine AL.ro qb ?_; refine AL.r qf ?_; refine AL.nil (AW.cd rfl (fun h14 => ?_) (fun h14 => ?_))
  ·refine AW.g (AL.ra ?_); refine AL.nil (AW.ret (r1t ?_)); exact nl8
  refine AW.skip (AW.region (AL.r (jAj rfl rfl rfl (rfl : _ = (1 : Int))) ?_)); refine AL.rm ?_; refine AL.nil (AW.g (AL.r qb ?_)); refine AL.nil (AW.seq (AW.cond_t rfl (AW.skip (AW.seq (AW.block (AW.g (AL.r (jDg (i := 1) rfl jBS ag_3 rfl rfl (by first | rfl | omega) (by decide) rfl) ?_))))))); refine AL.ra ?_; refine AL.nil (AW.g (AL.rm ?_)); refine AL.r qb ?_; refine AL.rm ?_; refine AL.fk (d := 11) rfl (fun h11 => ?_) (fun h11 => ?_)
  ·refine AL.n ?_; (iterate 2 refine AL.rf ?_); refine AL.r qt ?_; refine AL.nil (AW.cond_t rfl (AW.g (AL.ra ?_))); refine AL.nil (AW.ret (r1t ?_)); exact nl8
  refine AL.n ?_; refine AL.ro (jAa rfl rfl) ?_; refine AL.ro qb ?_; refine AL.r qf ?_; refine AL.nil (AW.cd rfl (fun h14 => ?_) (fun h14 => ?_))
  ·refine AW.g (AL.ra ?_); refine AL.nil (AW.ret (r1t ?_)); exact nl8
  refine AW.skip (AW.region (AL.r (jAj rfl rfl rfl (rfl : _ = (2 : Int))) ?_)); refine AL.rm ?_; refine AL.nil (AW.g (AL.r qb ?_)); refine AL.nil (AW.seq (AW.cond_t rfl (AW.skip (AW.seq (AW.block (AW.g (AL.r (jDg (i := 2) rfl jBS ag_3 rfl rfl (by first | rfl | omega) (by decide) rfl) ?_))))))); refine AL.ra ?_; refine AL.nil (AW.g (AL.rm ?_)); refine AL.r qb ?_; refine AL.rm ?_; refine AL.fk (d := 11) rfl (fun h11 => ?_) (fun h11 => ?_)
  ·refine AL.n ?_; (iterate 2 refine AL.rf ?_); refine AL.r qt ?_; refine AL.nil (AW.cond_t rfl (AW.g (AL.ra ?_))); refine AL.nil (AW.ret (r1t ?_)); exact nl8
  refine AL.n ?_; refine AL.ro (jAa rfl rfl) ?_; refine AL.ro qb ?_; refine AL.r qf ?_; refine AL.nil (AW.cd rfl (fun h14 => ?_) (fun h14 => ?_))
  ·refine AW.g (AL.ra ?_); refine AL.nil (AW.ret (r1t ?_)); exact nl8
  refine AW.skip (AW.region (AL.r (jAj rfl rfl rfl (rfl : _ = (3 : Int))) ?_)); refine AL.rm ?_; refine AL.nil (AW.g (AL.r qb ?_)); refine AL.nil (AW.seq (AW.cond_t rfl (AW.skip (AW.seq (AW.block (AW.g (AL.r (jDg (i := 3) rfl jBS ag_3 rfl rfl (by first | rfl | omega) (by decide) rfl) ?_))))))); refine AL.ra ?_; refine AL.nil (AW.g (AL.rm ?_)); refine AL.r qb ?_; refine AL.rm ?_; refine AL.fk (d := 11) rfl (fun h11 => ?_) (fun h11 => ?_)
  ·refine AL.n ?_; (iterate 2 refine AL.rf ?_); refine AL.r qt ?_; refine AL.nil (AW.cond_t rfl (AW.g (AL.ra ?_))); refine AL.nil (AW.ret (r1t ?_)); exact nl8
  refine AL.n ?_; refine AL.ro (jAa rfl rfl) ?_; refine AL.ro qb ?_; refine AL.r qf ?_; refine AL.nil (AW.cd rfl (fun h14 => ?_) (fun h14 => ?_))
  ·refine AW.g (AL.ra ?_); refine AL.nil (AW.ret (r1t ?_)); exact nl8
  refine AW.skip (AW.region (AL.r (jAj rfl rfl rfl (rfl : _ = (4 : Int))) ?_)); refine AL.rm ?_; refine AL.nil (AW.g (AL.r qb ?_)); refine AL.nil (AW.seq (AW.cond_t rfl (AW.skip (AW.seq (AW.block (AW.g (AL.r (jDg (i := 4) rfl jBS ag_3 rfl rfl (by first | rfl | omega) (by decide) rfl) ?_))))))); refine AL.ra ?_; refine AL.nil (AW.g (AL.rm ?_)); refine AL.r qb ?_; refine AL.rm ?_; refine AL.fk (d := 11) rfl (fun h11 => ?_) (fun h11 => ?_)
  ·refine AL.n ?_; (iterate 2 refine AL.rf ?_); refine AL.r qt ?_; refine AL.nil (AW.cond_t rfl (AW.g (AL.ra ?_))); refine AL.nil (AW.ret (r1t ?_)); exact nl8
  refine AL.n ?_; refine AL.ro (jAa rfl rfl) ?_; refine AL.ro qb ?_; refine AL.r qf ?_; refine AL.nil (AW.cd rfl (fun h14 => ?_) (fun h14 => ?_))
  ·refine AW.g (AL.ra ?_); refine AL.nil (AW.ret (r1t ?_)); exact nl8
  refine AW.skip (AW.region (AL.r (jAj rfl rfl rfl (rfl : _ = (5 : Int))) ?_)); refine AL.rm ?_; refine AL.nil (AW.g (AL.r qb ?_)); refine AL.nil (AW.seq (AW.cond_t rfl (AW.skip (AW.seq (AW.block (AW.g (AL.r (jDg (i := 5) rfl jBS ag_3 rfl rfl (by first | rfl | omega) (by decide) rfl) ?_))))))); refine AL.ra ?_; refine AL.nil (AW.g (AL.rm ?_)); refine AL.r qb ?_; refine AL.rm ?_; refine AL.fk (d := 11) rfl (fun h11 => ?_) (fun h11 => ?_)
  ·refine AL.n ?_; (iterate 2 refine AL.rf ?_); refine AL.r qt ?_; refine AL.nil (AW.cond_t rfl (AW.g (AL.ra ?_))); refine AL.nil (AW.ret (r1t ?_)); exact nl8
  refine AL.n ?_; refine AL.ro (jAa rfl rfl) ?_; refine AL.ro qb ?_; refine AL.r qf ?_; refine AL.nil (AW.cd rfl (fun h14 => ?_) (fun h14 => ?_))
  ·refine AW.g (AL.ra ?_); refine AL.nil (AW.ret (r1t ?_)); exact nl8
  refine AW.skip (AW.region (AL.r (jAj rfl rfl rfl (rfl : _ = (6 : Int))) ?_)); refine AL.rm ?_; refine AL.nil (AW.g (AL.r qb ?_)); refine AL.nil (AW.seq (AW.cond_f rfl (AW.exit ?_))); change AW _ _ _ _ _; refine AW.g (AL.ra ?_); refine AL.nil (AW.ret (r1t ?_)); exact nl8
theorem jGC (v : V6D) : AC Tryz.prog 27 [v.av] (fun r => r = .s (AB (vecB v))) := by
  change AC _ _ [.ag [AI v.a, AI v.b, AI v.c, AI v.d, AI v.e, AI v.f]] _; refine AC.of' 17 1 Tryz.func27 rfl ?_; change AW _ _ _ _ [TK.mk 0 .off]; refine AW.g (AL.oq (AOpB.op (oB 0 ?_))); refine AL.n ?_; refine AL.ra ?_; refine AL.nil (AW.seq (AW.g (AL.ra ?_))); refine AL.nil (AW.block (AW.unroll 7 ?_)); change AW _ _ _ _ _; refine AW.seq (AW.g (AL.rm ?_)); refine AL.r qb ?_; refine AL.nil (AW.cond_t rfl (AW.skip (AW.seq (AW.block (AW.g (AL.rm ?_)))))); refine AL.r (jAx 0 rfl jBS rfl rfl rfl) ?_; refine AL.r (ql ag_3) ?_; refine AL.r qb ?_; refine AL.rm ?_; refine AL.fk (d := 12) rfl (fun h12 => ?_) (fun h12 => ?_)
  ·refine AL.n ?_; (iterate 4 refine AL.rf ?_); refine AL.r qt ?_; refine AL.nil (AW.cond_t rfl (AW.g (AL.ra ?_))); refine AL.nil (AW.ret (r1t ?_)); exact nl8
  refine AL.n ?_; refine AL.ro (jAa rfl rfl) ?_; refine AL.ro (jAx 0 rfl jBS rfl rfl rfl) ?_; refine AL.ro (ql ag_3) ?_; refine AL.ro qb ?_; refine AL.r qf ?_; refine AL.nil (AW.cd rfl (fun h17 => ?_) (fun h17 => ?_))
  ·refine AW.g (AL.ra ?_); refine AL.nil (AW.ret (r1t ?_)); exact nl8
  refine AW.skip (AW.region (AL.rm ?_)); refine AL.r (jAj rfl rfl rfl (rfl : _ = (1 : Int))) ?_; refine AL.ra ?_; refine AL.nil (AW.seq (AW.g (AL.rm ?_))); refine AL.r qb ?_; refine AL.nil (AW.cond_t rfl (AW.skip (AW.seq (AW.block (AW.g (AL.rm ?_)))))); refine AL.r (jAx 1 rfl jBS rfl rfl rfl) ?_; refine AL.r (ql ag_3) ?_; refine AL.r qb ?_; refine AL.rm ?_; refine AL.fk (d := 12) rfl (fun h12 => ?_) (fun h12 => ?_)
  ·refine AL.n ?_; (iterate 4 refine AL.rf ?_); refine AL.r qt ?_; refine AL.nil (AW.cond_t rfl (AW.g (AL.ra ?_))); refine AL.nil (AW.ret (r1t ?_)); exact nl8
  refine AL.n ?_; refine AL.ro (jAa rfl rfl) ?_; refine AL.ro (jAx 1 rfl jBS rfl rfl rfl) ?_; refine AL.ro (ql ag_3) ?_; refine AL.ro qb ?_; refine AL.r qf ?_; refine AL.nil (AW.cd rfl (fun h17 => ?_) (fun h17 => ?_))
  ·refine AW.g (AL.ra ?_); refine AL.nil (AW.ret (r1t ?_)); exact nl8
  refine AW.skip (AW.region (AL.rm ?_)); refine AL.r (jAj rfl rfl rfl (rfl : _ = (2 : Int))) ?_; refine AL.ra ?_; refine AL.nil (AW.seq (AW.g (AL.rm ?_))); refine AL.r qb ?_; refine AL.nil (AW.cond_t rfl (AW.skip (AW.seq (AW.block (AW.g (AL.rm ?_)))))); refine AL.r (jAx 2 rfl jBS rfl rfl rfl) ?_; refine AL.r (ql ag_3) ?_; refine AL.r qb ?_; refine AL.rm ?_; refine AL.fk (d := 12) rfl (fun h12 => ?_) (fun h12 => ?_)
  ·refine AL.n ?_; (iterate 4 refine AL.rf ?_); refine AL.r qt ?_; refine AL.nil (AW.cond_t rfl (AW.g (AL.ra ?_))); refine AL.nil (AW.ret (r1t ?_)); exact nl8
  refine AL.n ?_; refine AL.ro (jAa rfl rfl) ?_; refine AL.ro (jAx 2 rfl jBS rfl rfl rfl) ?_; refine AL.ro (ql ag_3) ?_; refine AL.ro qb ?_; refine AL.r qf ?_; refine AL.nil (AW.cd rfl (fun h17 => ?_) (fun h17 => ?_))
  ·refine AW.g (AL.ra ?_); refine AL.nil (AW.ret (r1t ?_)); exact nl8
  refine AW.skip (AW.region (AL.rm ?_)); refine AL.r (jAj rfl rfl rfl (rfl : _ = (3 : Int))) ?_; refine AL.ra ?_; refine AL.nil (AW.seq (AW.g (AL.rm ?_))); refine AL.r qb ?_; refine AL.nil (AW.cond_t rfl (AW.skip (AW.seq (AW.block (AW.g (AL.rm ?_)))))); refine AL.r (jAx 3 rfl jBS rfl rfl rfl) ?_; refine AL.r (ql ag_3) ?_; refine AL.r qb ?_; refine AL.rm ?_; refine AL.fk (d := 12) rfl (fun h12 => ?_) (fun h12 => ?_)
  ·refine AL.n ?_; (iterate 4 refine AL.rf ?_); refine AL.r qt ?_; refine AL.nil (AW.cond_t rfl (AW.g (AL.ra ?_))); refine AL.nil (AW.ret (r1t ?_)); exact nl8
  refine AL.n ?_; refine AL.ro (jAa rfl rfl) ?_; refine AL.ro (jAx 3 rfl jBS rfl rfl rfl) ?_; refine AL.ro (ql ag_3) ?_; refine AL.ro qb ?_; refine AL.r qf ?_; refine AL.nil (AW.cd rfl (fun h17 => ?_) (fun h17 => ?_))
  ·refine AW.g (AL.ra ?_); refine AL.nil (AW.ret (r1t ?_)); exact nl8
  refine AW.skip (AW.region (AL.rm ?_)); refine AL.r (jAj rfl rfl rfl (rfl : _ = (4 : Int))) ?_; refine AL.ra ?_; refine AL.nil (AW.seq (AW.g (AL.rm ?_))); refine AL.r qb ?_; refine AL.nil (AW.cond_t rfl (AW.skip (AW.seq (AW.block (AW.g (AL.rm ?_)))))); refine AL.r (jAx 4 rfl jBS rfl rfl rfl) ?_; refine AL.r (ql ag_3) ?_; refine AL.r qb ?_; refine AL.rm ?_; refine AL.fk (d := 12) rfl (fun h12 => ?_) (fun h12 => ?_)
  ·refine AL.n ?_; (iterate 4 refine AL.rf ?_); refine AL.r qt ?_; refine AL.nil (AW.cond_t rfl (AW.g (AL.ra ?_))); refine AL.nil (AW.ret (r1t ?_)); exact nl8
  refine AL.n ?_; refine AL.ro (jAa rfl rfl) ?_; refine AL.ro (jAx 4 rfl jBS rfl rfl rfl) ?_; refine AL.ro (ql ag_3) ?_; refine AL.ro qb ?_; refine AL.r qf ?_; refine AL.nil (AW.cd rfl (fun h17 => ?_) (fun h17 => ?_))
  ·refine AW.g (AL.ra ?_); refine AL.nil (AW.ret (r1t ?_)); exact nl8
  refine AW.skip (AW.region (AL.rm ?_)); refine AL.r (jAj rfl rfl rfl (rfl : _ = (5 : Int))) ?_; refine AL.ra ?_; refine AL.nil (AW.seq (AW.g (AL.rm ?_))); refine AL.r qb ?_; refine AL.nil (AW.cond_t rfl (AW.skip (AW.seq (AW.block (AW.g (AL.rm ?_)))))); refine AL.r (jAx 5 rfl jBS rfl rfl rfl) ?_; refine AL.r (ql ag_3) ?_; refine AL.r qb ?_; refine AL.rm ?_; refine AL.fk (d := 12) rfl (fun h12 => ?_) (fun h12 => ?_)
  ·refine AL.n ?_; (iterate 4 refine AL.rf ?_); refine AL.r qt ?_; refine AL.nil (AW.cond_t rfl (AW.g (AL.ra ?_))); refine AL.nil (AW.ret (r1t ?_)); exact nl8
  refine AL.n ?_; refine AL.ro (jAa rfl rfl) ?_; refine AL.ro (jAx 5 rfl jBS rfl rfl rfl) ?_; refine AL.ro (ql ag_3) ?_; refine AL.ro qb ?_; refine AL.r qf ?_; refine AL.nil (AW.cd rfl (fun h17 => ?_) (fun h17 => ?_))
  ·refine AW.g (AL.ra ?_); refine AL.nil (AW.ret (r1t ?_)); exact nl8
  refine AW.skip (AW.region (AL.rm ?_)); refine AL.r (jAj rfl rfl rfl (rfl : _ = (6 : Int))) ?_; refine AL.ra ?_; refine AL.nil (AW.seq (AW.g (AL.rm ?_))); refine AL.r qb ?_; refine AL.nil (AW.cond_f rfl (AW.exit ?_)); change AW _ _ _ _ _; refine AW.g (AL.ra ?_); refine AL.nil (AW.ret (r1t ?_)); exact nl8
def jDE (x : EdgeD) : Bool := tagB x.id && (decide (x.par = ⟨0, 0⟩) || tagB x.par && !decide (x.par = x.id)) && (decide (1 ≤ x.lens.kind) && decide (x.lens.kind ≤ 8)) && jB2 x.lens
theorem troot_c : AC Tryz.prog 73 [] (fun r => r = .s (.ag [AI 0, AI 0])) := by
  refine AC.of' 2 1 Tryz.func73 rfl ?_; change AW _ _ _ _ [TK.mk 0 .off]; refine AW.g (AL.oq (AOpB.op (oA 0 jDZ ?_))); refine AL.n ?_; refine AL.nil (AW.g (AL.r (qB jIv jDZ) ?_)); refine AL.oq (oS jF8 ?_); refine AL.n ?_; refine AL.nil (AW.ret (res1 rfl (ResV.cells rfl rfl jAN (Nat.le_of_ble_eq_true rfl) rfl) rfl ?_)); rfl
theorem nl9 {a b : Bool} (h : a = b := by simp_all [jDE, jAP] <;> grind) : RS.s (AB a) = RS.s (AB b) := sb h
theorem jMK (x : EdgeD) : AC Tryz.prog 24 [x.av] (fun r => r = .s (AB (jDE x))) := by
  change AC _ _ [.ag [AI x.id.rep, AI x.id.n, AI x.par.rep, AI x.par.n, AI x.lens.kind, AI x.lens.at_.scope, AS x.lens.at_.group, AS x.lens.at_.name, AS x.lens.name, AS x.lens.other, AI x.lens.factor, AI x.lens.field.at_.scope, AS x.lens.field.at_.group, AS x.lens.field.at_.name, AI x.lens.field.kind, AS x.lens.field.dflt, .sl (csS x.lens.field.cases), AI x.lens.field.worth, .sl (x.lens.forth.map PairD.cs), .sl (x.lens.back.map PairD.cs)]] _; refine AC.of' 38 1 Tryz.func24 rfl ?_; change AW _ _ _ _ [TK.mk 0 .off]; refine AW.g (AL.oq (AOpB.op (oB 0 ?_))); refine AL.n ?_; refine AL.ra ?_; refine AL.nil (AW.seq (AW.g (AL.r (qa jFp) ?_))); refine AL.r (qN jAN) ?_; refine AL.oq (AOpB.op (jAb (jLF x.id) rfl (by kernel_rfl) rfl (none) ?_)); rintro r rfl; refine AL.n ?_; refine AL.r qu ?_; refine AL.nil (AW.cd rfl (fun h6 => ?_) (fun h6 => ?_))
  ·refine AW.g (AL.ra ?_); refine AL.nil (AW.ret (r1t ?_)); exact nl9
  refine AW.skip (AW.seq (AW.seq (AW.draw (by kernel_rfl) ?_))); refine AD.r 0 rfl (qa jEn) rfl ?_; refine AD.r 1 rfl (qN jAN) rfl ?_; refine AD.move 2 rfl (by kernel_rfl) rfl (jAb (troot_c) rfl (by kernel_rfl) rfl (none) ?_); rintro r rfl; refine AD.n ?_; refine AD.r 3 rfl (jDS rfl rfl rfl) rfl ?_; refine AD.r 4 rfl (jAa rfl rfl) rfl ?_; refine AD.fk (d := 11) rfl (fun h11 => ?_) (fun h11 => ?_)
  ·refine AD.n ?_; refine AD.r 5 rfl (qa jEn) ⟨_, _, rfl, rfl, rfl⟩ ?_; refine AD.r 6 rfl (qN jAN) ⟨_, _, rfl, rfl, rfl⟩ ?_; refine AD.move 7 rfl (by kernel_rfl) ⟨_, _, rfl, rfl, rfl⟩ (jAb (jLF x.par) rfl (by kernel_rfl) rfl (none) ?_); rintro r rfl; refine AD.n ?_; refine AD.r 8 rfl qu ⟨_, _, rfl, rfl, rfl⟩ ?_; refine AD.r 9 rfl (jAa rfl rfl) ⟨_, _, rfl, rfl, rfl⟩ ?_; refine AD.fk (d := 16) rfl (fun h16 => ?_) (fun h16 => ?_)
   ·refine AD.n ?_; refine AD.s 10 rfl ⟨_, _, rfl, rfl, rfl⟩ ?_; refine AD.s 11 rfl ⟨_, _, rfl, rfl, rfl⟩ ?_; refine AD.s 12 rfl ⟨_, _, rfl, rfl, rfl⟩ ?_; refine AD.s 13 rfl ⟨_, _, rfl, rfl, rfl⟩ ?_; refine AD.s 14 rfl ⟨_, _, rfl, rfl, rfl⟩ ?_; refine AD.r 15 rfl (jAm rfl rfl rfl) ⟨_, _, rfl, rfl, rfl⟩ ?_; refine AD.r 16 rfl (jAm rfl rfl rfl) rfl ?_; refine AD.done (by kernel_rfl) ?_; change AW _ _ _ _ _; refine AW.cond_t rfl (AW.g (AL.ra ?_)); refine AL.nil (AW.ret (r1t ?_)); exact nl9
   refine AD.n ?_; refine AD.r 10 rfl (qa jEn) ⟨_, _, rfl, rfl, rfl⟩ ?_; refine AD.r 11 rfl (qN jAN) ⟨_, _, rfl, rfl, rfl⟩ ?_; refine AD.r 12 rfl (qa jFp) ⟨_, _, rfl, rfl, rfl⟩ ?_; refine AD.r 13 rfl (qN jAN) ⟨_, _, rfl, rfl, rfl⟩ ?_; refine AD.r 14 rfl (jB9 rfl rfl rfl) ⟨_, _, rfl, rfl, rfl⟩ ?_; refine AD.r 15 rfl (jAs rfl rfl rfl) ⟨_, _, rfl, rfl, rfl⟩ ?_; refine AD.r 16 rfl (jAm rfl rfl rfl) rfl ?_; refine AD.done (by kernel_rfl) ?_; change AW _ _ _ _ _; refine AW.cd rfl (fun h23 => ?_) (fun h23 => ?_)
   ·refine AW.g (AL.ra ?_); refine AL.nil (AW.ret (r1t ?_)); exact nl9
   refine AW.skip (AW.g (AL.r (qa jDu) ?_)); refine AL.r (qa jBf) ?_; refine AL.r (ql ag_3) ?_; refine AL.r qb ?_; refine AL.rm ?_; refine AL.fk (d := 28) rfl (fun h28 => ?_) (fun h28 => ?_)
   ·refine AL.n ?_; refine AL.ro (qa jDu) ?_; refine AL.ro (qa jBf) ?_; refine AL.ro (ql ag_3) ?_; refine AL.ro qb ?_; refine AL.r qt ?_; refine AL.rm ?_; refine AL.fk (d := 34) rfl (fun h34 => ?_) (fun h34 => ?_)
    ·refine AL.n ?_; refine AL.ro (qa jDu) ?_; refine AL.ro (qN jAn) ?_; refine AL.on rfl rfl rfl (AOpB.op (jAb (jF0 x.lens) rfl (by kernel_rfl) rfl (none) ?_)); rintro r rfl; refine AL.n ?_; refine AL.r qt ?_; refine AL.ra ?_; refine AL.nil (AW.ret (r1t ?_)); exact nl9
    refine AL.n ?_; (iterate 3 refine AL.rf ?_); refine AL.r qf ?_; refine AL.ra ?_; refine AL.nil (AW.ret (r1t ?_)); exact nl9
   refine AL.n ?_; (iterate 4 refine AL.rf ?_); refine AL.r qf ?_; refine AL.rm ?_; (iterate 3 refine AL.rf ?_); refine AL.r qf ?_; refine AL.ra ?_; refine AL.nil (AW.ret (r1t ?_)); exact nl9
  refine AD.n ?_; refine AD.s 5 rfl ⟨_, _, rfl, rfl, rfl⟩ ?_; refine AD.s 6 rfl ⟨_, _, rfl, rfl, rfl⟩ ?_; refine AD.s 7 rfl ⟨_, _, rfl, rfl, rfl⟩ ?_; refine AD.s 8 rfl ⟨_, _, rfl, rfl, rfl⟩ ?_; refine AD.s 9 rfl ⟨_, _, rfl, rfl, rfl⟩ ?_; refine AD.s 10 rfl ⟨_, _, rfl, rfl, rfl⟩ ?_; refine AD.s 11 rfl ⟨_, _, rfl, rfl, rfl⟩ ?_; refine AD.s 12 rfl ⟨_, _, rfl, rfl, rfl⟩ ?_; refine AD.s 13 rfl ⟨_, _, rfl, rfl, rfl⟩ ?_; refine AD.s 14 rfl ⟨_, _, rfl, rfl, rfl⟩ ?_; refine AD.s 15 rfl ⟨_, _, rfl, rfl, rfl⟩ ?_; refine AD.r 16 rfl (jAs rfl rfl rfl) rfl ?_; refine AD.done (by kernel_rfl) ?_; change AW _ _ _ _ _; refine AW.cond_f rfl (AW.skip (AW.g (AL.r (qa jDu) ?_))); refine AL.r (qa jBf) ?_; refine AL.r (ql ag_3) ?_; refine AL.r qb ?_; refine AL.rm ?_; refine AL.fk (d := 28) rfl (fun h28 => ?_) (fun h28 => ?_)
  ·refine AL.n ?_; refine AL.ro (qa jDu) ?_; refine AL.ro (qa jBf) ?_; refine AL.ro (ql ag_3) ?_; refine AL.ro qb ?_; refine AL.r qt ?_; refine AL.rm ?_; refine AL.fk (d := 34) rfl (fun h34 => ?_) (fun h34 => ?_)
   ·refine AL.n ?_; refine AL.ro (qa jDu) ?_; refine AL.ro (qN jAn) ?_; refine AL.on rfl rfl rfl (AOpB.op (jAb (jF0 x.lens) rfl (by kernel_rfl) rfl (none) ?_)); rintro r rfl; refine AL.n ?_; refine AL.r qt ?_; refine AL.ra ?_; refine AL.nil (AW.ret (r1t ?_)); exact nl9
   refine AL.n ?_; (iterate 3 refine AL.rf ?_); refine AL.r qf ?_; refine AL.ra ?_; refine AL.nil (AW.ret (r1t ?_)); exact nl9
  refine AL.n ?_; (iterate 4 refine AL.rf ?_); refine AL.r qf ?_; refine AL.rm ?_; (iterate 3 refine AL.rf ?_); refine AL.r qf ?_; refine AL.ra ?_; refine AL.nil (AW.ret (r1t ?_)); exact nl9
theorem jLs {x : LensD} (h : jB2 x = true) : 1 ≤ x.kind := by
  have h2 : (jAD x).2 = true := by unfold jB2 at h; simp only [Bool.and_eq_true] at h; exact h.1.1
  unfold jAD at h2
  repeat' split at h2
  all_goals first | omega | cases h2
theorem jMY {t : TagD} (h : tagB t = true) : ¬ (t.rep = 0 ∧ t.n = 0) := fun ⟨a, _⟩ => by
  unfold tagB at h
  simp only [Bool.and_eq_true, decide_eq_true_eq] at h
  omega
theorem nl10 {a b : Bool} (h : a = b := by have t1 := @jMY x.id; have t2 := @jLs x.lens; simp_all [jDE, jAP] <;> grind) : RS.s (AB a) = RS.s (AB b) := sb h
theorem jK4 (x : EdgeD) (h : x.lens.Small) : AC Tryz.prog 29 [x.av] (fun r => r = .s (AB (jDE x))) := by
  change AC _ _ [.ag [AI x.id.rep, AI x.id.n, AI x.par.rep, AI x.par.n, AI x.lens.kind, AI x.lens.at_.scope, AS x.lens.at_.group, AS x.lens.at_.name, AS x.lens.name, AS x.lens.other, AI x.lens.factor, AI x.lens.field.at_.scope, AS x.lens.field.at_.group, AS x.lens.field.at_.name, AI x.lens.field.kind, AS x.lens.field.dflt, .sl (csS x.lens.field.cases), AI x.lens.field.worth, .sl (x.lens.forth.map PairD.cs), .sl (x.lens.back.map PairD.cs)]] _; refine AC.of' 34 1 Tryz.func29 rfl ?_; change AW _ _ _ _ [TK.mk 0 .off]; refine AW.g (AL.oq (AOpB.op (oB 0 ?_))); refine AL.n ?_; refine AL.ra ?_; refine AL.nil (AW.g (AL.r (qa jFp) ?_)); refine AL.r (qN jAN) ?_; refine AL.oq (AOpB.op (jAb (jHh x.id) rfl (by kernel_rfl) rfl (none) ?_)); rintro r rfl; refine AL.n ?_; refine AL.rm ?_; refine AL.fk (d := 6) rfl (fun h6 => ?_) (fun h6 => ?_)
  ·refine AL.n ?_; refine AL.ro (qa jEn) ?_; refine AL.ro (qN jAN) ?_; refine AL.ro (qB jIv jDZ) ?_; refine AL.ro (jB9 rfl rfl rfl) ?_; refine AL.ro (jAa rfl rfl) ?_; refine AL.fk (d := 11) rfl (fun h11 => ?_) (fun h11 => ?_)
   ·refine AL.n ?_; (iterate 3 refine AL.rf ?_); refine AL.ro (jAm rfl rfl rfl) ?_; refine AL.r qt ?_; refine AL.rm ?_; refine AL.ro (qa jFp) ?_; refine AL.ro (qN jAN) ?_; refine AL.ro (qa jEn) ?_; refine AL.ro (qN jAN) ?_; refine AL.ro (jDS rfl rfl rfl) ?_; refine AL.r qt ?_; refine AL.rm ?_; refine AL.fk (d := 24) rfl (fun h24 => ?_) (fun h24 => ?_)
    ·refine AL.n ?_; refine AL.ro (qa jDu) ?_; refine AL.ro (qN jAn) ?_; refine AL.on rfl rfl rfl (AOpB.op (jAb (jEW x.lens h) rfl (by kernel_rfl) rfl (none) ?_)); rintro r rfl; refine AL.n ?_; refine AL.r qt ?_; refine AL.rm ?_; refine AL.fk (d := 29) rfl (fun h29 => ?_) (fun h29 => ?_)
     ·refine AL.n ?_; refine AL.ro (qa jDu) ?_; refine AL.ro (qa jBf) ?_; refine AL.ro (ql ag_3) ?_; refine AL.ro qb ?_; refine AL.r qt ?_; refine AL.ra ?_; refine AL.nil (AW.ret (r1t ?_)); exact nl10
     refine AL.n ?_; (iterate 4 refine AL.rf ?_); refine AL.r qf ?_; refine AL.ra ?_; refine AL.nil (AW.ret (r1t ?_)); exact nl10
    refine AL.n ?_; (iterate 3 refine AL.rf ?_); refine AL.r qf ?_; refine AL.rm ?_; (iterate 4 refine AL.rf ?_); refine AL.r qf ?_; refine AL.ra ?_; refine AL.nil (AW.ret (r1t ?_)); exact nl10
   refine AL.n ?_; refine AL.ro (qa jEn) ?_; refine AL.ro (qN jAN) ?_; refine AL.on rfl rfl rfl (AOpB.op (jAb (jHh x.par) rfl (by kernel_rfl) rfl (none) ?_)); rintro r rfl; refine AL.n ?_; refine AL.ro (jAs rfl rfl rfl) ?_; refine AL.r qt ?_; refine AL.rm ?_; refine AL.fk (d := 17) rfl (fun h17 => ?_) (fun h17 => ?_)
   ·refine AL.n ?_; refine AL.ro (qa jFp) ?_; refine AL.ro (qN jAN) ?_; refine AL.ro (qa jEn) ?_; refine AL.ro (qN jAN) ?_; refine AL.ro (jDS rfl rfl rfl) ?_; refine AL.r qt ?_; refine AL.rm ?_; refine AL.fk (d := 24) rfl (fun h24 => ?_) (fun h24 => ?_)
    ·refine AL.n ?_; refine AL.ro (qa jDu) ?_; refine AL.ro (qN jAn) ?_; refine AL.on rfl rfl rfl (AOpB.op (jAb (jEW x.lens h) rfl (by kernel_rfl) rfl (none) ?_)); rintro r rfl; refine AL.n ?_; refine AL.r qt ?_; refine AL.rm ?_; refine AL.fk (d := 29) rfl (fun h29 => ?_) (fun h29 => ?_)
     ·refine AL.n ?_; refine AL.ro (qa jDu) ?_; refine AL.ro (qa jBf) ?_; refine AL.ro (ql ag_3) ?_; refine AL.ro qb ?_; refine AL.r qt ?_; refine AL.ra ?_; refine AL.nil (AW.ret (r1t ?_)); exact nl10
     refine AL.n ?_; (iterate 4 refine AL.rf ?_); refine AL.r qf ?_; refine AL.ra ?_; refine AL.nil (AW.ret (r1t ?_)); exact nl10
    refine AL.n ?_; (iterate 3 refine AL.rf ?_); refine AL.r qf ?_; refine AL.rm ?_; (iterate 4 refine AL.rf ?_); refine AL.r qf ?_; refine AL.ra ?_; refine AL.nil (AW.ret (r1t ?_)); exact nl10
   refine AL.n ?_; (iterate 5 refine AL.rf ?_); refine AL.r qf ?_; refine AL.rm ?_; (iterate 3 refine AL.rf ?_); refine AL.r qf ?_; refine AL.rm ?_; (iterate 4 refine AL.rf ?_); refine AL.r qf ?_; refine AL.ra ?_; refine AL.nil (AW.ret (r1t ?_)); exact nl10
  refine AL.n ?_; (iterate 5 refine AL.rf ?_); (iterate 3 refine AL.ru ?_); refine AL.rf ?_; refine AL.r qf ?_; refine AL.rm ?_; (iterate 5 refine AL.rf ?_); refine AL.r qf ?_; refine AL.rm ?_; (iterate 3 refine AL.rf ?_); refine AL.r qf ?_; refine AL.rm ?_; (iterate 4 refine AL.rf ?_); refine AL.r qf ?_; refine AL.ra ?_; refine AL.nil (AW.ret (r1t ?_)); exact nl10
theorem nl11 {a b : Bool} (h : a = b := by rw [Bool.eq_iff_iff]; simp_all [jMa, jAP] <;> (intros; simp_all)) : RS.s (AB a) = RS.s (AB b) := sb h
theorem tsame_c (a b : EdgeD) : AC Tryz.prog 33 [a.av, b.av] (fun r => r = .s (AB (decide (a = b)))) := by
  change AC _ _ [.ag [AI a.id.rep, AI a.id.n, AI a.par.rep, AI a.par.n, AI a.lens.kind, AI a.lens.at_.scope, AS a.lens.at_.group, AS a.lens.at_.name, AS a.lens.name, AS a.lens.other, AI a.lens.factor, AI a.lens.field.at_.scope, AS a.lens.field.at_.group, AS a.lens.field.at_.name, AI a.lens.field.kind, AS a.lens.field.dflt, .sl (csS a.lens.field.cases), AI a.lens.field.worth, .sl (a.lens.forth.map PairD.cs), .sl (a.lens.back.map PairD.cs)], .ag [AI b.id.rep, AI b.id.n, AI b.par.rep, AI b.par.n, AI b.lens.kind, AI b.lens.at_.scope, AS b.lens.at_.group, AS b.lens.at_.name, AS b.lens.name, AS b.lens.other, AI b.lens.factor, AI b.lens.field.at_.scope, AS b.lens.field.at_.group, AS b.lens.field.at_.name, AI b.lens.field.kind, AS b.lens.field.dflt, .sl (csS b.lens.field.cases), AI b.lens.field.worth, .sl (b.lens.forth.map PairD.cs), .sl (b.lens.back.map PairD.cs)]] _; refine AC.of' 22 2 Tryz.func33 rfl ?_
  change AW _ _ _ _ [TK.mk 0 .off, TK.mk 0 .off]; refine AW.g (AL.oq (AOpB.op (oB 0 ?_))); refine AL.n ?_; refine AL.oq (AOpB.op (oB 1 ?_)); refine AL.n ?_; refine AL.ra ?_; refine AL.nil (AW.g ?_); (iterate 2 (refine AL.r (qa jFp) ?_; refine AL.r (qN jAN) ?_)); refine AL.r (jB9 rfl rfl rfl) ?_; refine AL.rm ?_; refine AL.fk (d := 10) rfl (fun h10 => ?_) (fun h10 => ?_)
  ·refine AL.n ?_; (iterate 2 (refine AL.ro (qa jEn) ?_; refine AL.ro (qN jAN) ?_)); refine AL.ro (jB9 rfl rfl rfl) ?_; refine AL.r qt ?_; refine AL.rm ?_; refine AL.fk (d := 17) rfl (fun h17 => ?_) (fun h17 => ?_)
   ·refine AL.n ?_; (iterate 2 (refine AL.ro (qa jDu) ?_; refine AL.ro (qN jAn) ?_)); refine AL.on rfl rfl rfl (AOpB.op (jAb (jMg a.lens b.lens) rfl (by kernel_rfl) rfl (none) ?_)); rintro r rfl; refine AL.n ?_; refine AL.r qt ?_; refine AL.ra ?_; refine AL.nil (AW.ret (r1t ?_)); exact nl11
   refine AL.n ?_; (iterate 5 refine AL.rf ?_); refine AL.r qf ?_; refine AL.ra ?_; refine AL.nil (AW.ret (r1t ?_)); exact nl11
  refine AL.n ?_; (iterate 5 refine AL.rf ?_); refine AL.r qf ?_; refine AL.rm ?_; (iterate 5 refine AL.rf ?_); refine AL.r qf ?_; refine AL.ra ?_; refine AL.nil (AW.ret (r1t ?_)); exact nl11
theorem rtsame_c (a b : EdgeD) (h : a.lens.Small) : AC Tryz.prog 89 [a.av, b.av] (fun r => r = .s (AB (decide (a = b)))) := by
  change AC _ _ [.ag [AI a.id.rep, AI a.id.n, AI a.par.rep, AI a.par.n, AI a.lens.kind, AI a.lens.at_.scope, AS a.lens.at_.group, AS a.lens.at_.name, AS a.lens.name, AS a.lens.other, AI a.lens.factor, AI a.lens.field.at_.scope, AS a.lens.field.at_.group, AS a.lens.field.at_.name, AI a.lens.field.kind, AS a.lens.field.dflt, .sl (csS a.lens.field.cases), AI a.lens.field.worth, .sl (a.lens.forth.map PairD.cs), .sl (a.lens.back.map PairD.cs)], .ag [AI b.id.rep, AI b.id.n, AI b.par.rep, AI b.par.n, AI b.lens.kind, AI b.lens.at_.scope, AS b.lens.at_.group, AS b.lens.at_.name, AS b.lens.name, AS b.lens.other, AI b.lens.factor, AI b.lens.field.at_.scope, AS b.lens.field.at_.group, AS b.lens.field.at_.name, AI b.lens.field.kind, AS b.lens.field.dflt, .sl (csS b.lens.field.cases), AI b.lens.field.worth, .sl (b.lens.forth.map PairD.cs), .sl (b.lens.back.map PairD.cs)]] _; refine AC.of' 22 2 Tryz.func89 rfl ?_
  change AW _ _ _ _ [TK.mk 0 .off, TK.mk 0 .off]; refine AW.g (AL.oq (AOpB.op (oB 0 ?_))); refine AL.n ?_; refine AL.oq (AOpB.op (oB 1 ?_)); refine AL.n ?_; refine AL.ra ?_; refine AL.nil (AW.g ?_); (iterate 2 (refine AL.r (qa jFp) ?_; refine AL.r (qN jAN) ?_)); refine AL.r (jB9 rfl rfl rfl) ?_; refine AL.rm ?_; refine AL.fk (d := 10) rfl (fun h10 => ?_) (fun h10 => ?_)
  ·refine AL.n ?_; (iterate 2 (refine AL.ro (qa jEn) ?_; refine AL.ro (qN jAN) ?_)); refine AL.ro (jB9 rfl rfl rfl) ?_; refine AL.r qt ?_; refine AL.rm ?_; refine AL.fk (d := 17) rfl (fun h17 => ?_) (fun h17 => ?_)
   ·refine AL.n ?_; (iterate 2 (refine AL.ro (qa jDu) ?_; refine AL.ro (qN jAn) ?_)); refine AL.on rfl rfl rfl (AOpB.op (jAb (rlsame_c a.lens b.lens h) rfl (by kernel_rfl) rfl (none) ?_)); rintro r rfl; refine AL.n ?_; refine AL.r qt ?_; refine AL.ra ?_; refine AL.nil (AW.ret (r1t ?_)); exact nl11
   refine AL.n ?_; (iterate 5 refine AL.rf ?_); refine AL.r qf ?_; refine AL.ra ?_; refine AL.nil (AW.ret (r1t ?_)); exact nl11
  refine AL.n ?_; (iterate 5 refine AL.rf ?_); refine AL.r qf ?_; refine AL.rm ?_; (iterate 5 refine AL.rf ?_); refine AL.r qf ?_; refine AL.ra ?_; refine AL.nil (AW.ret (r1t ?_)); exact nl11
end Go.Proofs.YtlapcfnmmpbeeaaGreat
