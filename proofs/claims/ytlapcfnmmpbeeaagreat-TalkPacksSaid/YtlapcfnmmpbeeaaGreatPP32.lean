/- Texts of the proof of talkPacks_holds, put together by a program: TkA. -/
import Derived.Test.YtlapcfnmmpbeeaaGreatPP28
import Derived.Test.YtlapcfnmmpbeeaaGreatPP31
set_option linter.unusedSimpArgs false
set_option linter.unusedVariables false
namespace Go.Proofs.YtlapcfnmmpbeeaaGreat
set_option maxRecDepth 100000
set_option maxRecDepth 100000
open Go.RowKit
structure V6D where
  a : Int
  b : Int
  c : Int
  d : Int
  e : Int
  f : Int
deriving DecidableEq
def V6D.cs (v : V6D) : List AV := [AI v.a, AI v.b, AI v.c, AI v.d, AI v.e, AI v.f]
abbrev V6D.av (v : V6D) : AV := .ag v.cs
structure EdgeD where
  id : TagD
  par : TagD
  lens : LensD
deriving DecidableEq
def EdgeD.cs (x : EdgeD) : List AV := [AI x.id.rep, AI x.id.n, AI x.par.rep, AI x.par.n, AI x.lens.kind, AI x.lens.at_.scope, AS x.lens.at_.group, AS x.lens.at_.name, AS x.lens.name, AS x.lens.other, AI x.lens.factor, AI x.lens.field.at_.scope, AS x.lens.field.at_.group, AS x.lens.field.at_.name, AI x.lens.field.kind, AS x.lens.field.dflt, .sl (csS x.lens.field.cases), AI x.lens.field.worth, .sl (x.lens.forth.map PairD.cs), .sl (x.lens.back.map PairD.cs)]
theorem get_E {l : List EdgeD} {k : Nat} (h : k < l.length) : (l.map EdgeD.cs)[k]? = some [AI (l[k]'h).id.rep, AI (l[k]'h).id.n, AI (l[k]'h).par.rep, AI (l[k]'h).par.n, AI (l[k]'h).lens.kind, AI (l[k]'h).lens.at_.scope, AS (l[k]'h).lens.at_.group, AS (l[k]'h).lens.at_.name, AS (l[k]'h).lens.name, AS (l[k]'h).lens.other, AI (l[k]'h).lens.factor, AI (l[k]'h).lens.field.at_.scope, AS (l[k]'h).lens.field.at_.group, AS (l[k]'h).lens.field.at_.name, AI (l[k]'h).lens.field.kind, AS (l[k]'h).lens.field.dflt, .sl (csS (l[k]'h).lens.field.cases), AI (l[k]'h).lens.field.worth, .sl ((l[k]'h).lens.forth.map PairD.cs), .sl ((l[k]'h).lens.back.map PairD.cs)] := get_mapA h
theorem get_O {l : List OpD} {k : Nat} (h : k < l.length) : (l.map OpD.cs)[k]? = some [AI (l[k]'h).id.rep, AI (l[k]'h).id.n, AI (l[k]'h).schema.rep, AI (l[k]'h).schema.n, AI (l[k]'h).time, AS (l[k]'h).cart, AI (l[k]'h).kind, AS (l[k]'h).item, AI (l[k]'h).at_.scope, AS (l[k]'h).at_.group, AS (l[k]'h).at_.name, AI (l[k]'h).delta, AB (l[k]'h).has, AS (l[k]'h).text, .sl ((l[k]'h).drops.map TagD.cs)] := get_mapA h
abbrev EdgeD.av (x : EdgeD) : AV := .ag x.cs
theorem v6_iff (a b : V6D) : a = b ↔ a.a = b.a ∧ a.b = b.b ∧ a.c = b.c ∧ a.d = b.d ∧ a.e = b.e ∧ a.f = b.f := by cases a; cases b; simp
theorem edgeD_iff (a b : EdgeD) : a = b ↔ a.id = b.id ∧ a.par = b.par ∧ a.lens = b.lens := by cases a; cases b; simp
theorem run_eqV (a0 a1 a2 a3 a4 a5 b0 b1 b2 b3 b4 b5 : Int) (w : World) : (Op.equalIn 10000 23 (.agg #[.int .i64 a0, .int .i64 a1, .int .i64 a2, .int .i64 a3, .int .i64 a4, .int .i64 a5]) (.agg #[.int .i64 b0, .int .i64 b1, .int .i64 b2, .int .i64 b3, .int .i64 b4, .int .i64 b5])).run Tryz.prog w = .ok (decide (V6D.mk a0 a1 a2 a3 a4 a5 = V6D.mk b0 b1 b2 b3 b4 b5)) w := by
  rw [run_eq_vecD 9999 (fun a b w => run_equalIn_int w 9998 3 .i64 .i64 a b Tryz.underlying3) a0 a1 a2 a3 a4 a5 b0 b1 b2 b3 b4 b5 w]
  congr 1
  rw [decide_eq_decide, v6_iff]
theorem eq_Vector (x y : Operand) (a0 a1 a2 a3 a4 a5 b0 b1 b2 b3 b4 b5 : Int) (w : World) : (eqGuard .eql 23 x y (.agg #[.int .i64 a0, .int .i64 a1, .int .i64 a2, .int .i64 a3, .int .i64 a4, .int .i64 a5]) (.agg #[.int .i64 b0, .int .i64 b1, .int .i64 b2, .int .i64 b3, .int .i64 b4, .int .i64 b5]) >>= fun _ => binOp .eql 23 (.agg #[.int .i64 a0, .int .i64 a1, .int .i64 a2, .int .i64 a3, .int .i64 a4, .int .i64 a5]) (.agg #[.int .i64 b0, .int .i64 b1, .int .i64 b2, .int .i64 b3, .int .i64 b4, .int .i64 b5])).run Tryz.prog w = .ok (.bool (decide (V6D.mk a0 a1 a2 a3 a4 a5 = V6D.mk b0 b1 b2 b3 b4 b5))) w := by
  have h := run_eqV a0 a1 a2 a3 a4 a5 b0 b1 b2 b3 b4 b5 w
  go_simp <;> rw [h]
theorem ne_Vector (x y : Operand) (a0 a1 a2 a3 a4 a5 b0 b1 b2 b3 b4 b5 : Int) (w : World) : (eqGuard .neq 23 x y (.agg #[.int .i64 a0, .int .i64 a1, .int .i64 a2, .int .i64 a3, .int .i64 a4, .int .i64 a5]) (.agg #[.int .i64 b0, .int .i64 b1, .int .i64 b2, .int .i64 b3, .int .i64 b4, .int .i64 b5]) >>= fun _ => binOp .neq 23 (.agg #[.int .i64 a0, .int .i64 a1, .int .i64 a2, .int .i64 a3, .int .i64 a4, .int .i64 a5]) (.agg #[.int .i64 b0, .int .i64 b1, .int .i64 b2, .int .i64 b3, .int .i64 b4, .int .i64 b5])).run Tryz.prog w = .ok (.bool (!decide (V6D.mk a0 a1 a2 a3 a4 a5 = V6D.mk b0 b1 b2 b3 b4 b5))) w := by
  have h := run_eqV a0 a1 a2 a3 a4 a5 b0 b1 b2 b3 b4 b5 w
  go_simp <;> rw [h]
section
variable {o : Oper} {t : List AV} {st : List TK} {x y : Operand} {yt : TypeId} {a0 a1 a2 a3 a4 a5 b0 b1 b2 b3 b4 b5 : Int}
theorem rd_eq_Vector (ho : o.op = .binOp .eql 23 x y yt) (hx : evV t x = some (.agg #[.int .i64 a0, .int .i64 a1, .int .i64 a2, .int .i64 a3, .int .i64 a4, .int .i64 a5])) (hy : evV t y = some (.agg #[.int .i64 b0, .int .i64 b1, .int .i64 b2, .int .i64 b3, .int .i64 b4, .int .i64 b5])) : ARd Tryz.prog o t st (AB (decide (V6D.mk a0 a1 a2 a3 a4 a5 = V6D.mk b0 b1 b2 b3 b4 b5))) := rd_bin ho hx hy (eq_Vector x y a0 a1 a2 a3 a4 a5 b0 b1 b2 b3 b4 b5)
theorem rd_ne_Vector (ho : o.op = .binOp .neq 23 x y yt) (hx : evV t x = some (.agg #[.int .i64 a0, .int .i64 a1, .int .i64 a2, .int .i64 a3, .int .i64 a4, .int .i64 a5])) (hy : evV t y = some (.agg #[.int .i64 b0, .int .i64 b1, .int .i64 b2, .int .i64 b3, .int .i64 b4, .int .i64 b5])) : ARd Tryz.prog o t st (AB (!decide (V6D.mk a0 a1 a2 a3 a4 a5 = V6D.mk b0 b1 b2 b3 b4 b5))) := rd_bin ho hx hy (ne_Vector x y a0 a1 a2 a3 a4 a5 b0 b1 b2 b3 b4 b5)
end
def inB (n : Int) : Bool := decide (0 ≤ n) && decide (n ≤ 400)
def vecB (v : V6D) : Bool := inB v.a && inB v.b && inB v.c && inB v.d && inB v.e && inB v.f
theorem dright_c (v : V6D) : AC Tryz.prog 21 [v.av] (fun r => r = .s (AB (vecB v))) := by
  change AC _ _ [.ag [AI v.a, AI v.b, AI v.c, AI v.d, AI v.e, AI v.f]] _; refine AC.of' 15 1 Tryz.func21 rfl ?_; change AW _ _ _ _ [TK.mk 0 .off]; refine AW.seq (AW.region (AL.op rfl (AOpB.op (op_box 0 rfl rfl rfl rfl rfl ?_)))); refine AL.n ?_; refine AL.ra ?_; refine AL.nil (AW.seq (AW.seq (AW.region (AL.r (qN ag_23) ?_)))); refine AL.rm ?_; refine AL.nil (AW.block (AW.unroll 7 ?_)); change AW _ _ _ _ _; refine AW.seq (AW.region (AL.r qb ?_)); refine AL.nil (AW.seq (AW.cond_t rfl (AW.skip (AW.seq (AW.block (AW.seq (AW.region (AL.r (rd_index_ag (i := 0) rfl ar_23 ag_3 rfl rfl (by first | rfl | omega) (by decide) rfl) ?_))))))))
  refine AL.ra ?_; refine AL.nil (AW.seq (AW.region (AL.rm ?_))); refine AL.r qb ?_; refine AL.rm ?_; refine AL.fk (d := 11) rfl (fun h11 => ?_) (fun h11 => ?_)
  ·refine AL.n ?_; (iterate 2 refine AL.rf ?_); refine AL.r qt ?_; refine AL.nil (AW.cond_t rfl (AW.seq (AW.region (AL.ra ?_)))); refine AL.nil (AW.ret (r1t ?_))
   (refine congrArg (fun b => RS.s (AB b)) ?_; simp_all [vecB, inB] <;> omega)
  ·refine AL.n ?_; refine AL.ro (rd_move rfl rfl) ?_; refine AL.ro qb ?_; refine AL.r qf ?_; refine AL.nil (AW.cd rfl (fun h14 => ?_) (fun h14 => ?_))
   ·refine AW.seq (AW.region (AL.ra ?_)); refine AL.nil (AW.ret (r1t ?_))
    (refine congrArg (fun b => RS.s (AB b)) ?_; simp_all [vecB, inB] <;> omega)
   ·refine AW.skip (AW.region (AL.r (rd_arith_add rfl rfl rfl (rfl : _ = (1 : Int))) ?_)); refine AL.rm ?_; refine AL.nil (AW.seq (AW.region (AL.r qb ?_))); refine AL.nil (AW.seq (AW.cond_t rfl (AW.skip (AW.seq (AW.block (AW.seq (AW.region (AL.r (rd_index_ag (i := 1) rfl ar_23 ag_3 rfl rfl (by first | rfl | omega) (by decide) rfl) ?_)))))))); refine AL.ra ?_; refine AL.nil (AW.seq (AW.region (AL.rm ?_))); refine AL.r qb ?_; refine AL.rm ?_; refine AL.fk (d := 11) rfl (fun h11 => ?_) (fun h11 => ?_)
    ·refine AL.n ?_; (iterate 2 refine AL.rf ?_); refine AL.r qt ?_; refine AL.nil (AW.cond_t rfl (AW.seq (AW.region (AL.ra ?_)))); refine AL.nil (AW.ret (r1t ?_))
     (refine congrArg (fun b => RS.s (AB b)) ?_; simp_all [vecB, inB] <;> omega)
    ·refine AL.n ?_; refine AL.ro (rd_move rfl rfl) ?_; refine AL.ro qb ?_; refine AL.r qf ?_; refine AL.nil (AW.cd rfl (fun h14 => ?_) (fun h14 => ?_))
     ·refine AW.seq (AW.region (AL.ra ?_)); refine AL.nil (AW.ret (r1t ?_))
      (refine congrArg (fun b => RS.s (AB b)) ?_; simp_all [vecB, inB] <;> omega)
     ·refine AW.skip (AW.region (AL.r (rd_arith_add rfl rfl rfl (rfl : _ = (2 : Int))) ?_)); refine AL.rm ?_; refine AL.nil (AW.seq (AW.region (AL.r qb ?_))); refine AL.nil (AW.seq (AW.cond_t rfl (AW.skip (AW.seq (AW.block (AW.seq (AW.region (AL.r (rd_index_ag (i := 2) rfl ar_23 ag_3 rfl rfl (by first | rfl | omega) (by decide) rfl) ?_)))))))); refine AL.ra ?_; refine AL.nil (AW.seq (AW.region (AL.rm ?_))); refine AL.r qb ?_; refine AL.rm ?_; refine AL.fk (d := 11) rfl (fun h11 => ?_) (fun h11 => ?_)
      ·refine AL.n ?_; (iterate 2 refine AL.rf ?_); refine AL.r qt ?_; refine AL.nil (AW.cond_t rfl (AW.seq (AW.region (AL.ra ?_)))); refine AL.nil (AW.ret (r1t ?_))
       (refine congrArg (fun b => RS.s (AB b)) ?_; simp_all [vecB, inB] <;> omega)
      ·refine AL.n ?_; refine AL.ro (rd_move rfl rfl) ?_; refine AL.ro qb ?_; refine AL.r qf ?_; refine AL.nil (AW.cd rfl (fun h14 => ?_) (fun h14 => ?_))
       ·refine AW.seq (AW.region (AL.ra ?_)); refine AL.nil (AW.ret (r1t ?_))
        (refine congrArg (fun b => RS.s (AB b)) ?_; simp_all [vecB, inB] <;> omega)
       ·refine AW.skip (AW.region (AL.r (rd_arith_add rfl rfl rfl (rfl : _ = (3 : Int))) ?_)); refine AL.rm ?_; refine AL.nil (AW.seq (AW.region (AL.r qb ?_))); refine AL.nil (AW.seq (AW.cond_t rfl (AW.skip (AW.seq (AW.block (AW.seq (AW.region (AL.r (rd_index_ag (i := 3) rfl ar_23 ag_3 rfl rfl (by first | rfl | omega) (by decide) rfl) ?_)))))))); refine AL.ra ?_; refine AL.nil (AW.seq (AW.region (AL.rm ?_))); refine AL.r qb ?_; refine AL.rm ?_; refine AL.fk (d := 11) rfl (fun h11 => ?_) (fun h11 => ?_)
        ·refine AL.n ?_; (iterate 2 refine AL.rf ?_); refine AL.r qt ?_; refine AL.nil (AW.cond_t rfl (AW.seq (AW.region (AL.ra ?_)))); refine AL.nil (AW.ret (r1t ?_))
         (refine congrArg (fun b => RS.s (AB b)) ?_; simp_all [vecB, inB] <;> omega)
        ·refine AL.n ?_; refine AL.ro (rd_move rfl rfl) ?_; refine AL.ro qb ?_; refine AL.r qf ?_; refine AL.nil (AW.cd rfl (fun h14 => ?_) (fun h14 => ?_))
         ·refine AW.seq (AW.region (AL.ra ?_)); refine AL.nil (AW.ret (r1t ?_))
          (refine congrArg (fun b => RS.s (AB b)) ?_; simp_all [vecB, inB] <;> omega)
         ·refine AW.skip (AW.region (AL.r (rd_arith_add rfl rfl rfl (rfl : _ = (4 : Int))) ?_)); refine AL.rm ?_; refine AL.nil (AW.seq (AW.region (AL.r qb ?_))); refine AL.nil (AW.seq (AW.cond_t rfl (AW.skip (AW.seq (AW.block (AW.seq (AW.region (AL.r (rd_index_ag (i := 4) rfl ar_23 ag_3 rfl rfl (by first | rfl | omega) (by decide) rfl) ?_)))))))); refine AL.ra ?_; refine AL.nil (AW.seq (AW.region (AL.rm ?_))); refine AL.r qb ?_; refine AL.rm ?_; refine AL.fk (d := 11) rfl (fun h11 => ?_) (fun h11 => ?_)
          ·refine AL.n ?_; (iterate 2 refine AL.rf ?_); refine AL.r qt ?_; refine AL.nil (AW.cond_t rfl (AW.seq (AW.region (AL.ra ?_)))); refine AL.nil (AW.ret (r1t ?_))
           (refine congrArg (fun b => RS.s (AB b)) ?_; simp_all [vecB, inB] <;> omega)
          ·refine AL.n ?_; refine AL.ro (rd_move rfl rfl) ?_; refine AL.ro qb ?_; refine AL.r qf ?_; refine AL.nil (AW.cd rfl (fun h14 => ?_) (fun h14 => ?_))
           ·refine AW.seq (AW.region (AL.ra ?_)); refine AL.nil (AW.ret (r1t ?_))
            (refine congrArg (fun b => RS.s (AB b)) ?_; simp_all [vecB, inB] <;> omega)
           ·refine AW.skip (AW.region (AL.r (rd_arith_add rfl rfl rfl (rfl : _ = (5 : Int))) ?_)); refine AL.rm ?_; refine AL.nil (AW.seq (AW.region (AL.r qb ?_))); refine AL.nil (AW.seq (AW.cond_t rfl (AW.skip (AW.seq (AW.block (AW.seq (AW.region (AL.r (rd_index_ag (i := 5) rfl ar_23 ag_3 rfl rfl (by first | rfl | omega) (by decide) rfl) ?_)))))))); refine AL.ra ?_; refine AL.nil (AW.seq (AW.region (AL.rm ?_))); refine AL.r qb ?_; refine AL.rm ?_; refine AL.fk (d := 11) rfl (fun h11 => ?_) (fun h11 => ?_)
            ·refine AL.n ?_; (iterate 2 refine AL.rf ?_); refine AL.r qt ?_; refine AL.nil (AW.cond_t rfl (AW.seq (AW.region (AL.ra ?_)))); refine AL.nil (AW.ret (r1t ?_))
             (refine congrArg (fun b => RS.s (AB b)) ?_; simp_all [vecB, inB] <;> omega)
            ·refine AL.n ?_; refine AL.ro (rd_move rfl rfl) ?_; refine AL.ro qb ?_; refine AL.r qf ?_; refine AL.nil (AW.cd rfl (fun h14 => ?_) (fun h14 => ?_))
             ·refine AW.seq (AW.region (AL.ra ?_)); refine AL.nil (AW.ret (r1t ?_))
              (refine congrArg (fun b => RS.s (AB b)) ?_; simp_all [vecB, inB] <;> omega)
             ·refine AW.skip (AW.region (AL.r (rd_arith_add rfl rfl rfl (rfl : _ = (6 : Int))) ?_)); refine AL.rm ?_; refine AL.nil (AW.seq (AW.region (AL.r qb ?_))); refine AL.nil (AW.seq (AW.cond_f rfl (AW.exit ?_))); change AW _ _ _ _ _; refine AW.seq (AW.region (AL.ra ?_)); refine AL.nil (AW.ret (r1t ?_))
              (refine congrArg (fun b => RS.s (AB b)) ?_; simp_all [vecB, inB] <;> omega)
theorem rdright_c (v : V6D) : AC Tryz.prog 27 [v.av] (fun r => r = .s (AB (vecB v))) := by
  change AC _ _ [.ag [AI v.a, AI v.b, AI v.c, AI v.d, AI v.e, AI v.f]] _; refine AC.of' 17 1 Tryz.func27 rfl ?_; change AW _ _ _ _ [TK.mk 0 .off]; refine AW.seq (AW.region (AL.op rfl (AOpB.op (op_box 0 rfl rfl rfl rfl rfl ?_)))); refine AL.n ?_; refine AL.ra ?_; refine AL.nil (AW.seq (AW.seq (AW.region (AL.ra ?_)))); refine AL.nil (AW.block (AW.unroll 7 ?_)); change AW _ _ _ _ _; refine AW.seq (AW.seq (AW.region (AL.rm ?_))); refine AL.r qb ?_; refine AL.nil (AW.cond_t rfl (AW.skip (AW.seq (AW.block (AW.seq (AW.region (AL.rm ?_))))))); refine AL.r (rd_iaddr_bx_ 0 rfl ar_23 rfl rfl rfl) ?_; refine AL.r (ql ag_3) ?_
  refine AL.r qb ?_; refine AL.rm ?_; refine AL.fk (d := 12) rfl (fun h12 => ?_) (fun h12 => ?_)
  ·refine AL.n ?_; (iterate 4 refine AL.rf ?_); refine AL.r qt ?_; refine AL.nil (AW.cond_t rfl (AW.seq (AW.region (AL.ra ?_)))); refine AL.nil (AW.ret (r1t ?_))
   (refine congrArg (fun b => RS.s (AB b)) ?_; simp_all [vecB, inB] <;> omega)
  ·refine AL.n ?_; refine AL.ro (rd_move rfl rfl) ?_; refine AL.ro (rd_iaddr_bx_ 0 rfl ar_23 rfl rfl rfl) ?_; refine AL.ro (ql ag_3) ?_; refine AL.ro qb ?_; refine AL.r qf ?_; refine AL.nil (AW.cd rfl (fun h17 => ?_) (fun h17 => ?_))
   ·refine AW.seq (AW.region (AL.ra ?_)); refine AL.nil (AW.ret (r1t ?_))
    (refine congrArg (fun b => RS.s (AB b)) ?_; simp_all [vecB, inB] <;> omega)
   ·refine AW.skip (AW.region (AL.rm ?_)); refine AL.r (rd_arith_add rfl rfl rfl (rfl : _ = (1 : Int))) ?_; refine AL.ra ?_; refine AL.nil (AW.seq (AW.seq (AW.region (AL.rm ?_)))); refine AL.r qb ?_; refine AL.nil (AW.cond_t rfl (AW.skip (AW.seq (AW.block (AW.seq (AW.region (AL.rm ?_))))))); refine AL.r (rd_iaddr_bx_ 1 rfl ar_23 rfl rfl rfl) ?_; refine AL.r (ql ag_3) ?_; refine AL.r qb ?_; refine AL.rm ?_; refine AL.fk (d := 12) rfl (fun h12 => ?_) (fun h12 => ?_)
    ·refine AL.n ?_; (iterate 4 refine AL.rf ?_); refine AL.r qt ?_; refine AL.nil (AW.cond_t rfl (AW.seq (AW.region (AL.ra ?_)))); refine AL.nil (AW.ret (r1t ?_))
     (refine congrArg (fun b => RS.s (AB b)) ?_; simp_all [vecB, inB] <;> omega)
    ·refine AL.n ?_; refine AL.ro (rd_move rfl rfl) ?_; refine AL.ro (rd_iaddr_bx_ 1 rfl ar_23 rfl rfl rfl) ?_; refine AL.ro (ql ag_3) ?_; refine AL.ro qb ?_; refine AL.r qf ?_; refine AL.nil (AW.cd rfl (fun h17 => ?_) (fun h17 => ?_))
     ·refine AW.seq (AW.region (AL.ra ?_)); refine AL.nil (AW.ret (r1t ?_))
      (refine congrArg (fun b => RS.s (AB b)) ?_; simp_all [vecB, inB] <;> omega)
     ·refine AW.skip (AW.region (AL.rm ?_)); refine AL.r (rd_arith_add rfl rfl rfl (rfl : _ = (2 : Int))) ?_; refine AL.ra ?_; refine AL.nil (AW.seq (AW.seq (AW.region (AL.rm ?_)))); refine AL.r qb ?_; refine AL.nil (AW.cond_t rfl (AW.skip (AW.seq (AW.block (AW.seq (AW.region (AL.rm ?_))))))); refine AL.r (rd_iaddr_bx_ 2 rfl ar_23 rfl rfl rfl) ?_; refine AL.r (ql ag_3) ?_; refine AL.r qb ?_; refine AL.rm ?_; refine AL.fk (d := 12) rfl (fun h12 => ?_) (fun h12 => ?_)
      ·refine AL.n ?_; (iterate 4 refine AL.rf ?_); refine AL.r qt ?_; refine AL.nil (AW.cond_t rfl (AW.seq (AW.region (AL.ra ?_)))); refine AL.nil (AW.ret (r1t ?_))
       (refine congrArg (fun b => RS.s (AB b)) ?_; simp_all [vecB, inB] <;> omega)
      ·refine AL.n ?_; refine AL.ro (rd_move rfl rfl) ?_; refine AL.ro (rd_iaddr_bx_ 2 rfl ar_23 rfl rfl rfl) ?_; refine AL.ro (ql ag_3) ?_; refine AL.ro qb ?_; refine AL.r qf ?_; refine AL.nil (AW.cd rfl (fun h17 => ?_) (fun h17 => ?_))
       ·refine AW.seq (AW.region (AL.ra ?_)); refine AL.nil (AW.ret (r1t ?_))
        (refine congrArg (fun b => RS.s (AB b)) ?_; simp_all [vecB, inB] <;> omega)
       ·refine AW.skip (AW.region (AL.rm ?_)); refine AL.r (rd_arith_add rfl rfl rfl (rfl : _ = (3 : Int))) ?_; refine AL.ra ?_; refine AL.nil (AW.seq (AW.seq (AW.region (AL.rm ?_)))); refine AL.r qb ?_; refine AL.nil (AW.cond_t rfl (AW.skip (AW.seq (AW.block (AW.seq (AW.region (AL.rm ?_))))))); refine AL.r (rd_iaddr_bx_ 3 rfl ar_23 rfl rfl rfl) ?_; refine AL.r (ql ag_3) ?_; refine AL.r qb ?_; refine AL.rm ?_; refine AL.fk (d := 12) rfl (fun h12 => ?_) (fun h12 => ?_)
        ·refine AL.n ?_; (iterate 4 refine AL.rf ?_); refine AL.r qt ?_; refine AL.nil (AW.cond_t rfl (AW.seq (AW.region (AL.ra ?_)))); refine AL.nil (AW.ret (r1t ?_))
         (refine congrArg (fun b => RS.s (AB b)) ?_; simp_all [vecB, inB] <;> omega)
        ·refine AL.n ?_; refine AL.ro (rd_move rfl rfl) ?_; refine AL.ro (rd_iaddr_bx_ 3 rfl ar_23 rfl rfl rfl) ?_; refine AL.ro (ql ag_3) ?_; refine AL.ro qb ?_; refine AL.r qf ?_; refine AL.nil (AW.cd rfl (fun h17 => ?_) (fun h17 => ?_))
         ·refine AW.seq (AW.region (AL.ra ?_)); refine AL.nil (AW.ret (r1t ?_))
          (refine congrArg (fun b => RS.s (AB b)) ?_; simp_all [vecB, inB] <;> omega)
         ·refine AW.skip (AW.region (AL.rm ?_)); refine AL.r (rd_arith_add rfl rfl rfl (rfl : _ = (4 : Int))) ?_; refine AL.ra ?_; refine AL.nil (AW.seq (AW.seq (AW.region (AL.rm ?_)))); refine AL.r qb ?_; refine AL.nil (AW.cond_t rfl (AW.skip (AW.seq (AW.block (AW.seq (AW.region (AL.rm ?_))))))); refine AL.r (rd_iaddr_bx_ 4 rfl ar_23 rfl rfl rfl) ?_; refine AL.r (ql ag_3) ?_; refine AL.r qb ?_; refine AL.rm ?_; refine AL.fk (d := 12) rfl (fun h12 => ?_) (fun h12 => ?_)
          ·refine AL.n ?_; (iterate 4 refine AL.rf ?_); refine AL.r qt ?_; refine AL.nil (AW.cond_t rfl (AW.seq (AW.region (AL.ra ?_)))); refine AL.nil (AW.ret (r1t ?_))
           (refine congrArg (fun b => RS.s (AB b)) ?_; simp_all [vecB, inB] <;> omega)
          ·refine AL.n ?_; refine AL.ro (rd_move rfl rfl) ?_; refine AL.ro (rd_iaddr_bx_ 4 rfl ar_23 rfl rfl rfl) ?_; refine AL.ro (ql ag_3) ?_; refine AL.ro qb ?_; refine AL.r qf ?_; refine AL.nil (AW.cd rfl (fun h17 => ?_) (fun h17 => ?_))
           ·refine AW.seq (AW.region (AL.ra ?_)); refine AL.nil (AW.ret (r1t ?_))
            (refine congrArg (fun b => RS.s (AB b)) ?_; simp_all [vecB, inB] <;> omega)
           ·refine AW.skip (AW.region (AL.rm ?_)); refine AL.r (rd_arith_add rfl rfl rfl (rfl : _ = (5 : Int))) ?_; refine AL.ra ?_; refine AL.nil (AW.seq (AW.seq (AW.region (AL.rm ?_)))); refine AL.r qb ?_; refine AL.nil (AW.cond_t rfl (AW.skip (AW.seq (AW.block (AW.seq (AW.region (AL.rm ?_))))))); refine AL.r (rd_iaddr_bx_ 5 rfl ar_23 rfl rfl rfl) ?_; refine AL.r (ql ag_3) ?_; refine AL.r qb ?_; refine AL.rm ?_; refine AL.fk (d := 12) rfl (fun h12 => ?_) (fun h12 => ?_)
            ·refine AL.n ?_; (iterate 4 refine AL.rf ?_); refine AL.r qt ?_; refine AL.nil (AW.cond_t rfl (AW.seq (AW.region (AL.ra ?_)))); refine AL.nil (AW.ret (r1t ?_))
             (refine congrArg (fun b => RS.s (AB b)) ?_; simp_all [vecB, inB] <;> omega)
            ·refine AL.n ?_; refine AL.ro (rd_move rfl rfl) ?_; refine AL.ro (rd_iaddr_bx_ 5 rfl ar_23 rfl rfl rfl) ?_; refine AL.ro (ql ag_3) ?_; refine AL.ro qb ?_; refine AL.r qf ?_; refine AL.nil (AW.cd rfl (fun h17 => ?_) (fun h17 => ?_))
             ·refine AW.seq (AW.region (AL.ra ?_)); refine AL.nil (AW.ret (r1t ?_))
              (refine congrArg (fun b => RS.s (AB b)) ?_; simp_all [vecB, inB] <;> omega)
             ·refine AW.skip (AW.region (AL.rm ?_)); refine AL.r (rd_arith_add rfl rfl rfl (rfl : _ = (6 : Int))) ?_; refine AL.ra ?_; refine AL.nil (AW.seq (AW.seq (AW.region (AL.rm ?_)))); refine AL.r qb ?_; refine AL.nil (AW.cond_f rfl (AW.exit ?_)); change AW _ _ _ _ _; refine AW.seq (AW.region (AL.ra ?_)); refine AL.nil (AW.ret (r1t ?_))
              (refine congrArg (fun b => RS.s (AB b)) ?_; simp_all [vecB, inB] <;> omega)
def edgeB (x : EdgeD) : Bool := tagB x.id && (decide (x.par = ⟨0, 0⟩) || tagB x.par && !decide (x.par = x.id)) && (decide (1 ≤ x.lens.kind) && decide (x.lens.kind ≤ 8)) && rightL x.lens
theorem troot_c : AC Tryz.prog 73 [] (fun r => r = .s (.ag [AI 0, AI 0])) := by
  refine AC.of' 2 1 Tryz.func73 rfl ?_; change AW _ _ _ _ [TK.mk 0 .off]; refine AW.seq (AW.region (AL.op rfl (AOpB.op (op_alloc 0 rfl ze_34 rfl ?_)))); refine AL.n ?_; refine AL.nil (AW.seq (AW.region (AL.r (rd_build rfl pl_34 ze_34 rfl rfl) ?_))); refine AL.op rfl (op_store_ rfl rfl rfl rfl rfl sz_34 ?_); refine AL.n ?_; refine AL.nil (AW.ret (res1 rfl (ResV.cells rfl rfl ag_34 (Nat.le_of_ble_eq_true rfl) rfl) rfl ?_)); rfl
theorem tedge_c (x : EdgeD) : AC Tryz.prog 24 [x.av] (fun r => r = .s (AB (edgeB x))) := by
  change AC _ _ [.ag [AI x.id.rep, AI x.id.n, AI x.par.rep, AI x.par.n, AI x.lens.kind, AI x.lens.at_.scope, AS x.lens.at_.group, AS x.lens.at_.name, AS x.lens.name, AS x.lens.other, AI x.lens.factor, AI x.lens.field.at_.scope, AS x.lens.field.at_.group, AS x.lens.field.at_.name, AI x.lens.field.kind, AS x.lens.field.dflt, .sl (csS x.lens.field.cases), AI x.lens.field.worth, .sl (x.lens.forth.map PairD.cs), .sl (x.lens.back.map PairD.cs)]] _; refine AC.of' 38 1 Tryz.func24 rfl ?_; change AW _ _ _ _ [TK.mk 0 .off]; refine AW.seq (AW.region (AL.op rfl (AOpB.op (op_box 0 rfl rfl rfl rfl rfl ?_)))); refine AL.n ?_; refine AL.ra ?_; refine AL.nil (AW.seq (AW.seq (AW.region (AL.r (qa fo_44_0) ?_)))); refine AL.r (qN ag_34) ?_; refine AL.op rfl (AOpB.op (op_call (tag_c x.id) rfl (by kernel_rfl) rfl (none) ?_))
  rintro r rfl; refine AL.n ?_; refine AL.r (rd_un rfl rfl (fun _ => rfl)) ?_; refine AL.nil (AW.cd rfl (fun h6 => ?_) (fun h6 => ?_))
  ·refine AW.seq (AW.region (AL.ra ?_)); refine AL.nil (AW.ret (r1t ?_))
   (refine congrArg (fun b => RS.s (AB b)) ?_; simp_all [edgeB, tagD_iff] <;> grind)
  ·refine AW.skip (AW.seq (AW.seq (AW.draw (by kernel_rfl) ?_))); refine AD.r 0 rfl (qa fo_44_1) rfl ?_; refine AD.r 1 rfl (qN ag_34) rfl ?_; refine AD.move 2 rfl (by kernel_rfl) rfl (op_call (troot_c) rfl (by kernel_rfl) rfl (none) ?_); rintro r rfl; refine AD.n ?_; refine AD.r 3 rfl (rd_ne_Tag rfl rfl rfl) rfl ?_; refine AD.r 4 rfl (rd_move rfl rfl) rfl ?_; refine AD.fk (d := 11) rfl (fun h11 => ?_) (fun h11 => ?_)
   ·refine AD.n ?_; refine AD.r 5 rfl (qa fo_44_1) ⟨_, _, rfl, rfl, rfl⟩ ?_; refine AD.r 6 rfl (qN ag_34) ⟨_, _, rfl, rfl, rfl⟩ ?_; refine AD.move 7 rfl (by kernel_rfl) ⟨_, _, rfl, rfl, rfl⟩ (op_call (tag_c x.par) rfl (by kernel_rfl) rfl (none) ?_); rintro r rfl; refine AD.n ?_; refine AD.r 8 rfl (rd_un rfl rfl (fun _ => rfl)) ⟨_, _, rfl, rfl, rfl⟩ ?_; refine AD.r 9 rfl (rd_move rfl rfl) ⟨_, _, rfl, rfl, rfl⟩ ?_; refine AD.fk (d := 16) rfl (fun h16 => ?_) (fun h16 => ?_)
    ·refine AD.n ?_; refine AD.s 10 rfl ⟨_, _, rfl, rfl, rfl⟩ ?_; refine AD.s 11 rfl ⟨_, _, rfl, rfl, rfl⟩ ?_; refine AD.s 12 rfl ⟨_, _, rfl, rfl, rfl⟩ ?_; refine AD.s 13 rfl ⟨_, _, rfl, rfl, rfl⟩ ?_; refine AD.s 14 rfl ⟨_, _, rfl, rfl, rfl⟩ ?_; refine AD.r 15 rfl (rd_pick_t rfl rfl rfl) ⟨_, _, rfl, rfl, rfl⟩ ?_; refine AD.r 16 rfl (rd_pick_t rfl rfl rfl) rfl ?_; refine AD.done (by kernel_rfl) ?_; change AW _ _ _ _ _; refine AW.cond_t rfl (AW.seq (AW.region (AL.ra ?_))); refine AL.nil (AW.ret (r1t ?_))
     (refine congrArg (fun b => RS.s (AB b)) ?_; simp_all [edgeB, tagD_iff] <;> grind)
    ·refine AD.n ?_; refine AD.r 10 rfl (qa fo_44_1) ⟨_, _, rfl, rfl, rfl⟩ ?_; refine AD.r 11 rfl (qN ag_34) ⟨_, _, rfl, rfl, rfl⟩ ?_; refine AD.r 12 rfl (qa fo_44_0) ⟨_, _, rfl, rfl, rfl⟩ ?_; refine AD.r 13 rfl (qN ag_34) ⟨_, _, rfl, rfl, rfl⟩ ?_; refine AD.r 14 rfl (rd_eq_Tag rfl rfl rfl) ⟨_, _, rfl, rfl, rfl⟩ ?_; refine AD.r 15 rfl (rd_pick_f rfl rfl rfl) ⟨_, _, rfl, rfl, rfl⟩ ?_; refine AD.r 16 rfl (rd_pick_t rfl rfl rfl) rfl ?_; refine AD.done (by kernel_rfl) ?_; change AW _ _ _ _ _; refine AW.cd rfl (fun h23 => ?_) (fun h23 => ?_)
     ·refine AW.seq (AW.region (AL.ra ?_)); refine AL.nil (AW.ret (r1t ?_))
      (refine congrArg (fun b => RS.s (AB b)) ?_; simp_all [edgeB, tagD_iff] <;> grind)
     ·refine AW.skip (AW.seq (AW.region (AL.r (qa fo_44_2) ?_))); refine AL.r (qa fo_42_0) ?_; refine AL.r (ql ag_3) ?_; refine AL.r qb ?_; refine AL.rm ?_; refine AL.fk (d := 28) rfl (fun h28 => ?_) (fun h28 => ?_)
      ·refine AL.n ?_; refine AL.ro (qa fo_44_2) ?_; refine AL.ro (qa fo_42_0) ?_; refine AL.ro (ql ag_3) ?_; refine AL.ro qb ?_; refine AL.r qt ?_; refine AL.rm ?_; refine AL.fk (d := 34) rfl (fun h34 => ?_) (fun h34 => ?_)
       ·refine AL.n ?_; refine AL.ro (qa fo_44_2) ?_; refine AL.ro (qN ag_42) ?_; refine AL.on rfl rfl rfl (AOpB.op (op_call (lright_c x.lens) rfl (by kernel_rfl) rfl (none) ?_)); rintro r rfl; refine AL.n ?_; refine AL.r qt ?_; refine AL.ra ?_; refine AL.nil (AW.ret (r1t ?_))
        (refine congrArg (fun b => RS.s (AB b)) ?_; simp_all [edgeB, tagD_iff] <;> grind)
       ·refine AL.n ?_; (iterate 3 refine AL.rf ?_); refine AL.r qf ?_; refine AL.ra ?_; refine AL.nil (AW.ret (r1t ?_))
        (refine congrArg (fun b => RS.s (AB b)) ?_; simp_all [edgeB, tagD_iff] <;> grind)
      ·refine AL.n ?_; (iterate 4 refine AL.rf ?_); refine AL.r qf ?_; refine AL.rm ?_; (iterate 3 refine AL.rf ?_); refine AL.r qf ?_; refine AL.ra ?_; refine AL.nil (AW.ret (r1t ?_))
       (refine congrArg (fun b => RS.s (AB b)) ?_; simp_all [edgeB, tagD_iff] <;> grind)
   ·refine AD.n ?_; refine AD.s 5 rfl ⟨_, _, rfl, rfl, rfl⟩ ?_; refine AD.s 6 rfl ⟨_, _, rfl, rfl, rfl⟩ ?_; refine AD.s 7 rfl ⟨_, _, rfl, rfl, rfl⟩ ?_; refine AD.s 8 rfl ⟨_, _, rfl, rfl, rfl⟩ ?_; refine AD.s 9 rfl ⟨_, _, rfl, rfl, rfl⟩ ?_; refine AD.s 10 rfl ⟨_, _, rfl, rfl, rfl⟩ ?_; refine AD.s 11 rfl ⟨_, _, rfl, rfl, rfl⟩ ?_; refine AD.s 12 rfl ⟨_, _, rfl, rfl, rfl⟩ ?_; refine AD.s 13 rfl ⟨_, _, rfl, rfl, rfl⟩ ?_; refine AD.s 14 rfl ⟨_, _, rfl, rfl, rfl⟩ ?_; refine AD.s 15 rfl ⟨_, _, rfl, rfl, rfl⟩ ?_; refine AD.r 16 rfl (rd_pick_f rfl rfl rfl) rfl ?_; refine AD.done (by kernel_rfl) ?_; change AW _ _ _ _ _; refine AW.cond_f rfl (AW.skip (AW.seq (AW.region (AL.r (qa fo_44_2) ?_)))); refine AL.r (qa fo_42_0) ?_; refine AL.r (ql ag_3) ?_; refine AL.r qb ?_
    refine AL.rm ?_; refine AL.fk (d := 28) rfl (fun h28 => ?_) (fun h28 => ?_)
    ·refine AL.n ?_; refine AL.ro (qa fo_44_2) ?_; refine AL.ro (qa fo_42_0) ?_; refine AL.ro (ql ag_3) ?_; refine AL.ro qb ?_; refine AL.r qt ?_; refine AL.rm ?_; refine AL.fk (d := 34) rfl (fun h34 => ?_) (fun h34 => ?_)
     ·refine AL.n ?_; refine AL.ro (qa fo_44_2) ?_; refine AL.ro (qN ag_42) ?_; refine AL.on rfl rfl rfl (AOpB.op (op_call (lright_c x.lens) rfl (by kernel_rfl) rfl (none) ?_)); rintro r rfl; refine AL.n ?_; refine AL.r qt ?_; refine AL.ra ?_; refine AL.nil (AW.ret (r1t ?_))
      (refine congrArg (fun b => RS.s (AB b)) ?_; simp_all [edgeB, tagD_iff] <;> grind)
     ·refine AL.n ?_; (iterate 3 refine AL.rf ?_); refine AL.r qf ?_; refine AL.ra ?_; refine AL.nil (AW.ret (r1t ?_))
      (refine congrArg (fun b => RS.s (AB b)) ?_; simp_all [edgeB, tagD_iff] <;> grind)
    ·refine AL.n ?_; (iterate 4 refine AL.rf ?_); refine AL.r qf ?_; refine AL.rm ?_; (iterate 3 refine AL.rf ?_); refine AL.r qf ?_; refine AL.ra ?_; refine AL.nil (AW.ret (r1t ?_))
     (refine congrArg (fun b => RS.s (AB b)) ?_; simp_all [edgeB, tagD_iff] <;> grind)
theorem rightL_pos {x : LensD} (h : rightL x = true) : 1 ≤ x.kind := by
  have h2 : (partsL x).2 = true := by unfold rightL at h; simp only [Bool.and_eq_true] at h; exact h.1.1
  unfold partsL at h2
  repeat' split at h2
  all_goals first | omega | cases h2
theorem tagB_root {t : TagD} (h : tagB t = true) : ¬ (t.rep = 0 ∧ t.n = 0) := fun ⟨a, _⟩ => by
  unfold tagB at h
  simp only [Bool.and_eq_true, decide_eq_true_eq] at h
  omega
theorem rtedge_c (x : EdgeD) (h : x.lens.Small) : AC Tryz.prog 29 [x.av] (fun r => r = .s (AB (edgeB x))) := by
  change AC _ _ [.ag [AI x.id.rep, AI x.id.n, AI x.par.rep, AI x.par.n, AI x.lens.kind, AI x.lens.at_.scope, AS x.lens.at_.group, AS x.lens.at_.name, AS x.lens.name, AS x.lens.other, AI x.lens.factor, AI x.lens.field.at_.scope, AS x.lens.field.at_.group, AS x.lens.field.at_.name, AI x.lens.field.kind, AS x.lens.field.dflt, .sl (csS x.lens.field.cases), AI x.lens.field.worth, .sl (x.lens.forth.map PairD.cs), .sl (x.lens.back.map PairD.cs)]] _; refine AC.of' 34 1 Tryz.func29 rfl ?_; change AW _ _ _ _ [TK.mk 0 .off]; refine AW.seq (AW.region (AL.op rfl (AOpB.op (op_box 0 rfl rfl rfl rfl rfl ?_)))); refine AL.n ?_; refine AL.ra ?_; refine AL.nil (AW.seq (AW.region (AL.r (qa fo_44_0) ?_))); refine AL.r (qN ag_34) ?_; refine AL.op rfl (AOpB.op (op_call (rtag_c x.id) rfl (by kernel_rfl) rfl (none) ?_))
  rintro r rfl; refine AL.n ?_; refine AL.rm ?_; refine AL.fk (d := 6) rfl (fun h6 => ?_) (fun h6 => ?_)
  ·refine AL.n ?_; refine AL.ro (qa fo_44_1) ?_; refine AL.ro (qN ag_34) ?_; refine AL.ro (rd_build rfl pl_34 ze_34 rfl rfl) ?_; refine AL.ro (rd_eq_Tag rfl rfl rfl) ?_; refine AL.ro (rd_move rfl rfl) ?_; refine AL.fk (d := 11) rfl (fun h11 => ?_) (fun h11 => ?_)
   ·refine AL.n ?_; (iterate 3 refine AL.rf ?_); refine AL.ro (rd_pick_t rfl rfl rfl) ?_; refine AL.r qt ?_; refine AL.rm ?_; refine AL.ro (qa fo_44_0) ?_; refine AL.ro (qN ag_34) ?_; refine AL.ro (qa fo_44_1) ?_; refine AL.ro (qN ag_34) ?_; refine AL.ro (rd_ne_Tag rfl rfl rfl) ?_; refine AL.r qt ?_; refine AL.rm ?_; refine AL.fk (d := 24) rfl (fun h24 => ?_) (fun h24 => ?_)
    ·refine AL.n ?_; refine AL.ro (qa fo_44_2) ?_; refine AL.ro (qN ag_42) ?_; refine AL.on rfl rfl rfl (AOpB.op (op_call (rright15_c x.lens h) rfl (by kernel_rfl) rfl (none) ?_)); rintro r rfl; refine AL.n ?_; refine AL.r qt ?_; refine AL.rm ?_; refine AL.fk (d := 29) rfl (fun h29 => ?_) (fun h29 => ?_)
     ·refine AL.n ?_; refine AL.ro (qa fo_44_2) ?_; refine AL.ro (qa fo_42_0) ?_; refine AL.ro (ql ag_3) ?_; refine AL.ro qb ?_; refine AL.r qt ?_; refine AL.ra ?_; refine AL.nil (AW.ret (r1t ?_))
      (refine congrArg (fun b => RS.s (AB b)) ?_; have t1 := @tagB_root x.id; have t2 := @rightL_pos x.lens; simp_all [edgeB, tagD_iff] <;> grind)
     ·refine AL.n ?_; (iterate 4 refine AL.rf ?_); refine AL.r qf ?_; refine AL.ra ?_; refine AL.nil (AW.ret (r1t ?_))
      (refine congrArg (fun b => RS.s (AB b)) ?_; have t1 := @tagB_root x.id; have t2 := @rightL_pos x.lens; simp_all [edgeB, tagD_iff] <;> grind)
    ·refine AL.n ?_; (iterate 3 refine AL.rf ?_); refine AL.r qf ?_; refine AL.rm ?_; (iterate 4 refine AL.rf ?_); refine AL.r qf ?_; refine AL.ra ?_; refine AL.nil (AW.ret (r1t ?_))
     (refine congrArg (fun b => RS.s (AB b)) ?_; have t1 := @tagB_root x.id; have t2 := @rightL_pos x.lens; simp_all [edgeB, tagD_iff] <;> grind)
   ·refine AL.n ?_; refine AL.ro (qa fo_44_1) ?_; refine AL.ro (qN ag_34) ?_; refine AL.on rfl rfl rfl (AOpB.op (op_call (rtag_c x.par) rfl (by kernel_rfl) rfl (none) ?_)); rintro r rfl; refine AL.n ?_; refine AL.ro (rd_pick_f rfl rfl rfl) ?_; refine AL.r qt ?_; refine AL.rm ?_; refine AL.fk (d := 17) rfl (fun h17 => ?_) (fun h17 => ?_)
    ·refine AL.n ?_; refine AL.ro (qa fo_44_0) ?_; refine AL.ro (qN ag_34) ?_; refine AL.ro (qa fo_44_1) ?_; refine AL.ro (qN ag_34) ?_; refine AL.ro (rd_ne_Tag rfl rfl rfl) ?_; refine AL.r qt ?_; refine AL.rm ?_; refine AL.fk (d := 24) rfl (fun h24 => ?_) (fun h24 => ?_)
     ·refine AL.n ?_; refine AL.ro (qa fo_44_2) ?_; refine AL.ro (qN ag_42) ?_; refine AL.on rfl rfl rfl (AOpB.op (op_call (rright15_c x.lens h) rfl (by kernel_rfl) rfl (none) ?_)); rintro r rfl; refine AL.n ?_; refine AL.r qt ?_; refine AL.rm ?_; refine AL.fk (d := 29) rfl (fun h29 => ?_) (fun h29 => ?_)
      ·refine AL.n ?_; refine AL.ro (qa fo_44_2) ?_; refine AL.ro (qa fo_42_0) ?_; refine AL.ro (ql ag_3) ?_; refine AL.ro qb ?_; refine AL.r qt ?_; refine AL.ra ?_; refine AL.nil (AW.ret (r1t ?_))
       (refine congrArg (fun b => RS.s (AB b)) ?_; have t1 := @tagB_root x.id; have t2 := @rightL_pos x.lens; simp_all [edgeB, tagD_iff] <;> grind)
      ·refine AL.n ?_; (iterate 4 refine AL.rf ?_); refine AL.r qf ?_; refine AL.ra ?_; refine AL.nil (AW.ret (r1t ?_))
       (refine congrArg (fun b => RS.s (AB b)) ?_; have t1 := @tagB_root x.id; have t2 := @rightL_pos x.lens; simp_all [edgeB, tagD_iff] <;> grind)
     ·refine AL.n ?_; (iterate 3 refine AL.rf ?_); refine AL.r qf ?_; refine AL.rm ?_; (iterate 4 refine AL.rf ?_); refine AL.r qf ?_; refine AL.ra ?_; refine AL.nil (AW.ret (r1t ?_))
      (refine congrArg (fun b => RS.s (AB b)) ?_; have t1 := @tagB_root x.id; have t2 := @rightL_pos x.lens; simp_all [edgeB, tagD_iff] <;> grind)
    ·refine AL.n ?_; (iterate 5 refine AL.rf ?_); refine AL.r qf ?_; refine AL.rm ?_; (iterate 3 refine AL.rf ?_); refine AL.r qf ?_; refine AL.rm ?_; (iterate 4 refine AL.rf ?_); refine AL.r qf ?_; refine AL.ra ?_; refine AL.nil (AW.ret (r1t ?_))
     (refine congrArg (fun b => RS.s (AB b)) ?_; have t1 := @tagB_root x.id; have t2 := @rightL_pos x.lens; simp_all [edgeB, tagD_iff] <;> grind)
  ·refine AL.n ?_; (iterate 5 refine AL.rf ?_); (iterate 3 refine AL.ru ?_); refine AL.rf ?_; refine AL.r qf ?_; refine AL.rm ?_; (iterate 5 refine AL.rf ?_); refine AL.r qf ?_; refine AL.rm ?_; (iterate 3 refine AL.rf ?_); refine AL.r qf ?_; refine AL.rm ?_; (iterate 4 refine AL.rf ?_); refine AL.r qf ?_; refine AL.ra ?_; refine AL.nil (AW.ret (r1t ?_))
   (refine congrArg (fun b => RS.s (AB b)) ?_; have t1 := @tagB_root x.id; have t2 := @rightL_pos x.lens; simp_all [edgeB, tagD_iff] <;> grind)
theorem tsame_c (a b : EdgeD) : AC Tryz.prog 33 [a.av, b.av] (fun r => r = .s (AB (decide (a = b)))) := by
  change AC _ _ [.ag [AI a.id.rep, AI a.id.n, AI a.par.rep, AI a.par.n, AI a.lens.kind, AI a.lens.at_.scope, AS a.lens.at_.group, AS a.lens.at_.name, AS a.lens.name, AS a.lens.other, AI a.lens.factor, AI a.lens.field.at_.scope, AS a.lens.field.at_.group, AS a.lens.field.at_.name, AI a.lens.field.kind, AS a.lens.field.dflt, .sl (csS a.lens.field.cases), AI a.lens.field.worth, .sl (a.lens.forth.map PairD.cs), .sl (a.lens.back.map PairD.cs)], .ag [AI b.id.rep, AI b.id.n, AI b.par.rep, AI b.par.n, AI b.lens.kind, AI b.lens.at_.scope, AS b.lens.at_.group, AS b.lens.at_.name, AS b.lens.name, AS b.lens.other, AI b.lens.factor, AI b.lens.field.at_.scope, AS b.lens.field.at_.group, AS b.lens.field.at_.name, AI b.lens.field.kind, AS b.lens.field.dflt, .sl (csS b.lens.field.cases), AI b.lens.field.worth, .sl (b.lens.forth.map PairD.cs), .sl (b.lens.back.map PairD.cs)]] _; refine AC.of' 22 2 Tryz.func33 rfl ?_
  change AW _ _ _ _ [TK.mk 0 .off, TK.mk 0 .off]; refine AW.seq (AW.region (AL.op rfl (AOpB.op (op_box 0 rfl rfl rfl rfl rfl ?_)))); refine AL.n ?_; refine AL.op rfl (AOpB.op (op_box 1 rfl rfl rfl rfl rfl ?_)); refine AL.n ?_; refine AL.ra ?_; refine AL.nil (AW.seq (AW.region ?_)); (iterate 2 (refine AL.r (qa fo_44_0) ?_; refine AL.r (qN ag_34) ?_)); refine AL.r (rd_eq_Tag rfl rfl rfl) ?_; refine AL.rm ?_; refine AL.fk (d := 10) rfl (fun h10 => ?_) (fun h10 => ?_)
  ·refine AL.n ?_; (iterate 2 (refine AL.ro (qa fo_44_1) ?_; refine AL.ro (qN ag_34) ?_)); refine AL.ro (rd_eq_Tag rfl rfl rfl) ?_; refine AL.r qt ?_; refine AL.rm ?_; refine AL.fk (d := 17) rfl (fun h17 => ?_) (fun h17 => ?_)
   ·refine AL.n ?_; (iterate 2 (refine AL.ro (qa fo_44_2) ?_; refine AL.ro (qN ag_42) ?_)); refine AL.on rfl rfl rfl (AOpB.op (op_call (lsame_c a.lens b.lens) rfl (by kernel_rfl) rfl (none) ?_)); rintro r rfl; refine AL.n ?_; refine AL.r qt ?_; refine AL.ra ?_; refine AL.nil (AW.ret (r1t ?_))
    (refine congrArg (fun b => RS.s (AB b)) ?_; rw [Bool.eq_iff_iff]; simp_all [edgeD_iff, tagD_iff] <;> (intros; simp_all))
   ·refine AL.n ?_; (iterate 5 refine AL.rf ?_); refine AL.r qf ?_; refine AL.ra ?_; refine AL.nil (AW.ret (r1t ?_))
    (refine congrArg (fun b => RS.s (AB b)) ?_; rw [Bool.eq_iff_iff]; simp_all [edgeD_iff, tagD_iff] <;> (intros; simp_all))
  ·refine AL.n ?_; (iterate 5 refine AL.rf ?_); refine AL.r qf ?_; refine AL.rm ?_; (iterate 5 refine AL.rf ?_); refine AL.r qf ?_; refine AL.ra ?_; refine AL.nil (AW.ret (r1t ?_))
   (refine congrArg (fun b => RS.s (AB b)) ?_; rw [Bool.eq_iff_iff]; simp_all [edgeD_iff, tagD_iff] <;> (intros; simp_all))
theorem rtsame_c (a b : EdgeD) (h : a.lens.Small) : AC Tryz.prog 89 [a.av, b.av] (fun r => r = .s (AB (decide (a = b)))) := by
  change AC _ _ [.ag [AI a.id.rep, AI a.id.n, AI a.par.rep, AI a.par.n, AI a.lens.kind, AI a.lens.at_.scope, AS a.lens.at_.group, AS a.lens.at_.name, AS a.lens.name, AS a.lens.other, AI a.lens.factor, AI a.lens.field.at_.scope, AS a.lens.field.at_.group, AS a.lens.field.at_.name, AI a.lens.field.kind, AS a.lens.field.dflt, .sl (csS a.lens.field.cases), AI a.lens.field.worth, .sl (a.lens.forth.map PairD.cs), .sl (a.lens.back.map PairD.cs)], .ag [AI b.id.rep, AI b.id.n, AI b.par.rep, AI b.par.n, AI b.lens.kind, AI b.lens.at_.scope, AS b.lens.at_.group, AS b.lens.at_.name, AS b.lens.name, AS b.lens.other, AI b.lens.factor, AI b.lens.field.at_.scope, AS b.lens.field.at_.group, AS b.lens.field.at_.name, AI b.lens.field.kind, AS b.lens.field.dflt, .sl (csS b.lens.field.cases), AI b.lens.field.worth, .sl (b.lens.forth.map PairD.cs), .sl (b.lens.back.map PairD.cs)]] _; refine AC.of' 22 2 Tryz.func89 rfl ?_
  change AW _ _ _ _ [TK.mk 0 .off, TK.mk 0 .off]; refine AW.seq (AW.region (AL.op rfl (AOpB.op (op_box 0 rfl rfl rfl rfl rfl ?_)))); refine AL.n ?_; refine AL.op rfl (AOpB.op (op_box 1 rfl rfl rfl rfl rfl ?_)); refine AL.n ?_; refine AL.ra ?_; refine AL.nil (AW.seq (AW.region ?_)); (iterate 2 (refine AL.r (qa fo_44_0) ?_; refine AL.r (qN ag_34) ?_)); refine AL.r (rd_eq_Tag rfl rfl rfl) ?_; refine AL.rm ?_; refine AL.fk (d := 10) rfl (fun h10 => ?_) (fun h10 => ?_)
  ·refine AL.n ?_; (iterate 2 (refine AL.ro (qa fo_44_1) ?_; refine AL.ro (qN ag_34) ?_)); refine AL.ro (rd_eq_Tag rfl rfl rfl) ?_; refine AL.r qt ?_; refine AL.rm ?_; refine AL.fk (d := 17) rfl (fun h17 => ?_) (fun h17 => ?_)
   ·refine AL.n ?_; (iterate 2 (refine AL.ro (qa fo_44_2) ?_; refine AL.ro (qN ag_42) ?_)); refine AL.on rfl rfl rfl (AOpB.op (op_call (rlsame_c a.lens b.lens h) rfl (by kernel_rfl) rfl (none) ?_)); rintro r rfl; refine AL.n ?_; refine AL.r qt ?_; refine AL.ra ?_; refine AL.nil (AW.ret (r1t ?_))
    (refine congrArg (fun b => RS.s (AB b)) ?_; rw [Bool.eq_iff_iff]; simp_all [edgeD_iff, tagD_iff] <;> (intros; simp_all))
   ·refine AL.n ?_; (iterate 5 refine AL.rf ?_); refine AL.r qf ?_; refine AL.ra ?_; refine AL.nil (AW.ret (r1t ?_))
    (refine congrArg (fun b => RS.s (AB b)) ?_; rw [Bool.eq_iff_iff]; simp_all [edgeD_iff, tagD_iff] <;> (intros; simp_all))
  ·refine AL.n ?_; (iterate 5 refine AL.rf ?_); refine AL.r qf ?_; refine AL.rm ?_; (iterate 5 refine AL.rf ?_); refine AL.r qf ?_; refine AL.ra ?_; refine AL.nil (AW.ret (r1t ?_))
   (refine congrArg (fun b => RS.s (AB b)) ?_; rw [Bool.eq_iff_iff]; simp_all [edgeD_iff, tagD_iff] <;> (intros; simp_all))
end Go.Proofs.YtlapcfnmmpbeeaaGreat
