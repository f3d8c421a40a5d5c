/- A part of a proof. -/
import Derived.Test.YtlapcfnmmpbeeaaPT30
set_option linter.unusedSimpArgs false
set_option linter.unusedVariables false
namespace Go.Proofs.Ytlapcfnmmpbeeaa
set_option maxRecDepth 100000
set_option maxRecDepth 100000
open Go.RowKit
structure V6D where
  a : Int
  b : Int
  c : Int
  d : Int
  e : Int
  f : Int
deriving DecidableEq
def V6D.cs (v : V6D) : List AV := [AI v.a, AI v.b, AI v.c, AI v.d, AI v.e, AI v.f]
abbrev V6D.av (v : V6D) : AV := .ag v.cs
structure EdgeD where
  id : TagD
  par : TagD
  lens : LensD
deriving DecidableEq
def EdgeD.cs (x : EdgeD) : List AV := [AI x.id.rep, AI x.id.n, AI x.par.rep, AI x.par.n, AI x.lens.kind, AI x.lens.at_.scope, AS x.lens.at_.group, AS x.lens.at_.name, AS x.lens.name, AS x.lens.other, AI x.lens.factor, AI x.lens.field.at_.scope, AS x.lens.field.at_.group, AS x.lens.field.at_.name, AI x.lens.field.kind, AS x.lens.field.dflt, .sl (csS x.lens.field.cases), AI x.lens.field.worth, .sl (x.lens.forth.map PairD.cs), .sl (x.lens.back.map PairD.cs)]
theorem get_E {l : List EdgeD} {k : Nat} (h : k < l.length) : (l.map EdgeD.cs)[k]? = some [AI (l[k]'h).id.rep, AI (l[k]'h).id.n, AI (l[k]'h).par.rep, AI (l[k]'h).par.n, AI (l[k]'h).lens.kind, AI (l[k]'h).lens.at_.scope, AS (l[k]'h).lens.at_.group, AS (l[k]'h).lens.at_.name, AS (l[k]'h).lens.name, AS (l[k]'h).lens.other, AI (l[k]'h).lens.factor, AI (l[k]'h).lens.field.at_.scope, AS (l[k]'h).lens.field.at_.group, AS (l[k]'h).lens.field.at_.name, AI (l[k]'h).lens.field.kind, AS (l[k]'h).lens.field.dflt, .sl (csS (l[k]'h).lens.field.cases), AI (l[k]'h).lens.field.worth, .sl ((l[k]'h).lens.forth.map PairD.cs), .sl ((l[k]'h).lens.back.map PairD.cs)] := get_mapA h
theorem get_O {l : List OpD} {k : Nat} (h : k < l.length) : (l.map OpD.cs)[k]? = some [AI (l[k]'h).id.rep, AI (l[k]'h).id.n, AI (l[k]'h).schema.rep, AI (l[k]'h).schema.n, AI (l[k]'h).time, AS (l[k]'h).cart, AI (l[k]'h).kind, AS (l[k]'h).item, AI (l[k]'h).at_.scope, AS (l[k]'h).at_.group, AS (l[k]'h).at_.name, AI (l[k]'h).delta, AB (l[k]'h).has, AS (l[k]'h).text, .sl ((l[k]'h).drops.map TagD.cs)] := get_mapA h
abbrev EdgeD.av (x : EdgeD) : AV := .ag x.cs
theorem v6_iff (a b : V6D) : a = b ↔ a.a = b.a ∧ a.b = b.b ∧ a.c = b.c ∧ a.d = b.d ∧ a.e = b.e ∧ a.f = b.f := by cases a; cases b; simp
theorem run_eqV (a0 a1 a2 a3 a4 a5 b0 b1 b2 b3 b4 b5 : Int) (w : World) : (Op.equalIn 10000 23 (.agg #[.int .i64 a0, .int .i64 a1, .int .i64 a2, .int .i64 a3, .int .i64 a4, .int .i64 a5]) (.agg #[.int .i64 b0, .int .i64 b1, .int .i64 b2, .int .i64 b3, .int .i64 b4, .int .i64 b5])).run Try.prog w = .ok (decide (V6D.mk a0 a1 a2 a3 a4 a5 = V6D.mk b0 b1 b2 b3 b4 b5)) w := by
  rw [run_eq_vecD 9999 (fun a b w => run_equalIn_int w 9998 3 .i64 .i64 a b Try.underlying3) a0 a1 a2 a3 a4 a5 b0 b1 b2 b3 b4 b5 w]
  congr 1
  rw [decide_eq_decide, v6_iff]
theorem ne_Vector (x y : Operand) (a0 a1 a2 a3 a4 a5 b0 b1 b2 b3 b4 b5 : Int) (w : World) : (eqGuard .neq 23 x y (.agg #[.int .i64 a0, .int .i64 a1, .int .i64 a2, .int .i64 a3, .int .i64 a4, .int .i64 a5]) (.agg #[.int .i64 b0, .int .i64 b1, .int .i64 b2, .int .i64 b3, .int .i64 b4, .int .i64 b5]) >>= fun _ => binOp .neq 23 (.agg #[.int .i64 a0, .int .i64 a1, .int .i64 a2, .int .i64 a3, .int .i64 a4, .int .i64 a5]) (.agg #[.int .i64 b0, .int .i64 b1, .int .i64 b2, .int .i64 b3, .int .i64 b4, .int .i64 b5])).run Try.prog w = .ok (.bool (!decide (V6D.mk a0 a1 a2 a3 a4 a5 = V6D.mk b0 b1 b2 b3 b4 b5))) w := by
  have h := run_eqV a0 a1 a2 a3 a4 a5 b0 b1 b2 b3 b4 b5 w
  go_simp <;> rw [h]
section
variable {o : Oper} {t : List AV} {st : List TK} {x y : Operand} {yt : TypeId} {a0 a1 a2 a3 a4 a5 b0 b1 b2 b3 b4 b5 : Int}
theorem rd_ne_Vector (ho : o.op = .binOp .neq 23 x y yt) (hx : evV t x = some (.agg #[.int .i64 a0, .int .i64 a1, .int .i64 a2, .int .i64 a3, .int .i64 a4, .int .i64 a5])) (hy : evV t y = some (.agg #[.int .i64 b0, .int .i64 b1, .int .i64 b2, .int .i64 b3, .int .i64 b4, .int .i64 b5])) : ARd Try.prog o t st (AB (!decide (V6D.mk a0 a1 a2 a3 a4 a5 = V6D.mk b0 b1 b2 b3 b4 b5))) := rd_bin ho hx hy (ne_Vector x y a0 a1 a2 a3 a4 a5 b0 b1 b2 b3 b4 b5)
end
def inB (n : Int) : Bool := decide (0 ≤ n) && decide (n ≤ 400)
def vecB (v : V6D) : Bool := inB v.a && inB v.b && inB v.c && inB v.d && inB v.e && inB v.f
theorem nl7 {a b : Bool} (h : a = b := by simp_all [vecB, inB] <;> omega) : RS.s (AB a) = RS.s (AB b) := sb h
theorem dright_c (v : V6D) : AC Try.prog 36 [v.av] (fun r => r = .s (AB (vecB v))) := by
  change AC _ _ [.ag [AI v.a, AI v.b, AI v.c, AI v.d, AI v.e, AI v.f]] _; refine AC.of' 15 1 Try.func36 rfl ?_; change AW _ _ _ _ [TK.mk 0 .off]; refine AW.g (AL.oq (AOpB.op (oB 0 ?_))); refine AL.n ?_; refine AL.ra ?_; refine AL.nil (AW.seq (AW.g (AL.r (qN ag_23) ?_))); refine AL.rm ?_; refine AL.nil (AW.block (AW.unroll 7 ?_)); change AW _ _ _ _ _; refine AW.g (AL.r qb ?_); refine AL.nil (AW.seq (AW.cond_t rfl (AW.skip (AW.seq (AW.block (AW.g (AL.r (rd_index_ag (i := 0) rfl ar_23 ag_3 rfl rfl (by first | rfl | omega) (by decide) rfl) ?_))))))); refine AL.ra ?_; refine AL.nil (AW.g (AL.rm ?_)); refine AL.r qb ?_; refine AL.rm ?_; refine AL.fk (d := 11) rfl (fun h11 => ?_) (fun h11 => ?_)
  ·refine AL.n ?_; (iterate 2 refine AL.rf ?_); refine AL.r qt ?_; refine AL.nil (AW.cond_t rfl (AW.g (AL.ra ?_))); refine AL.nil (AW.ret (r1t ?_)); exact nl7
  refine AL.n ?_; refine AL.ro (rd_move rfl rfl) ?_; refine AL.ro qb ?_; refine AL.r qf ?_; refine AL.nil (AW.cd rfl (fun h14 => ?_) (fun h14 => ?_))
  ·refine AW.g (AL.ra ?_); refine AL.nil (AW.ret (r1t ?_)); exact nl7
  refine AW.skip (AW.region (AL.r (rd_arith_add rfl rfl rfl (rfl : _ = (1 : Int))) ?_)); refine AL.rm ?_; refine AL.nil (AW.g (AL.r qb ?_)); refine AL.nil (AW.seq (AW.cond_t rfl (AW.skip (AW.seq (AW.block (AW.g (AL.r (rd_index_ag (i := 1) rfl ar_23 ag_3 rfl rfl (by first | rfl | omega) (by decide) rfl) ?_))))))); refine AL.ra ?_; refine AL.nil (AW.g (AL.rm ?_)); refine AL.r qb ?_; refine AL.rm ?_; refine AL.fk (d := 11) rfl (fun h11 => ?_) (fun h11 => ?_)
  ·refine AL.n ?_; (iterate 2 refine AL.rf ?_); refine AL.r qt ?_; refine AL.nil (AW.cond_t rfl (AW.g (AL.ra ?_))); refine AL.nil (AW.ret (r1t ?_)); exact nl7
  refine AL.n ?_; refine AL.ro (rd_move rfl rfl) ?_; refine AL.ro qb ?_; refine AL.r qf ?_; refine AL.nil (AW.cd rfl (fun h14 => ?_) (fun h14 => ?_))
  ·refine AW.g (AL.ra ?_); refine AL.nil (AW.ret (r1t ?_)); exact nl7
  refine AW.skip (AW.region (AL.r (rd_arith_add rfl rfl rfl (rfl : _ = (2 : Int))) ?_)); refine AL.rm ?_; refine AL.nil (AW.g (AL.r qb ?_)); refine AL.nil (AW.seq (AW.cond_t rfl (AW.skip (AW.seq (AW.block (AW.g (AL.r (rd_index_ag (i := 2) rfl ar_23 ag_3 rfl rfl (by first | rfl | omega) (by decide) rfl) ?_))))))); refine AL.ra ?_; refine AL.nil (AW.g (AL.rm ?_)); refine AL.r qb ?_; refine AL.rm ?_; refine AL.fk (d := 11) rfl (fun h11 => ?_) (fun h11 => ?_)
  ·refine AL.n ?_; (iterate 2 refine AL.rf ?_); refine AL.r qt ?_; refine AL.nil (AW.cond_t rfl (AW.g (AL.ra ?_))); refine AL.nil (AW.ret (r1t ?_)); exact nl7
  refine AL.n ?_; refine AL.ro (rd_move rfl rfl) ?_; refine AL.ro qb ?_; refine AL.r qf ?_; refine AL.nil (AW.cd rfl (fun h14 => ?_) (fun h14 => ?_))
  ·refine AW.g (AL.ra ?_); refine AL.nil (AW.ret (r1t ?_)); exact nl7
  refine AW.skip (AW.region (AL.r (rd_arith_add rfl rfl rfl (rfl : _ = (3 : Int))) ?_)); refine AL.rm ?_; refine AL.nil (AW.g (AL.r qb ?_)); refine AL.nil (AW.seq (AW.cond_t rfl (AW.skip (AW.seq (AW.block (AW.g (AL.r (rd_index_ag (i := 3) rfl ar_23 ag_3 rfl rfl (by first | rfl | omega) (by decide) rfl) ?_))))))); refine AL.ra ?_; refine AL.nil (AW.g (AL.rm ?_)); refine AL.r qb ?_; refine AL.rm ?_; refine AL.fk (d := 11) rfl (fun h11 => ?_) (fun h11 => ?_)
  ·refine AL.n ?_; (iterate 2 refine AL.rf ?_); refine AL.r qt ?_; refine AL.nil (AW.cond_t rfl (AW.g (AL.ra ?_))); refine AL.nil (AW.ret (r1t ?_)); exact nl7
  refine AL.n ?_; refine AL.ro (rd_move rfl rfl) ?_; refine AL.ro qb ?_; refine AL.r qf ?_; refine AL.nil (AW.cd rfl (fun h14 => ?_) (fun h14 => ?_))
  ·refine AW.g (AL.ra ?_); refine AL.nil (AW.ret (r1t ?_)); exact nl7
  refine AW.skip (AW.region (AL.r (rd_arith_add rfl rfl rfl (rfl : _ = (4 : Int))) ?_)); refine AL.rm ?_; refine AL.nil (AW.g (AL.r qb ?_)); refine AL.nil (AW.seq (AW.cond_t rfl (AW.skip (AW.seq (AW.block (AW.g (AL.r (rd_index_ag (i := 4) rfl ar_23 ag_3 rfl rfl (by first | rfl | omega) (by decide) rfl) ?_))))))); refine AL.ra ?_; refine AL.nil (AW.g (AL.rm ?_)); refine AL.r qb ?_; refine AL.rm ?_; refine AL.fk (d := 11) rfl (fun h11 => ?_) (fun h11 => ?_)
  ·refine AL.n ?_; (iterate 2 refine AL.rf ?_); refine AL.r qt ?_; refine AL.nil (AW.cond_t rfl (AW.g (AL.ra ?_))); refine AL.nil (AW.ret (r1t ?_)); exact nl7
  refine AL.n ?_; refine AL.ro (rd_move rfl rfl) ?_; refine AL.ro qb ?_; refine AL.r qf ?_; refine AL.nil (AW.cd rfl (fun h14 => ?_) (fun h14 => ?_))
  ·refine AW.g (AL.ra ?_); refine AL.nil (AW.ret (r1t ?_)); exact nl7
  refine AW.skip (AW.region (AL.r (rd_arith_add rfl rfl rfl (rfl : _ = (5 : Int))) ?_)); refine AL.rm ?_; refine AL.nil (AW.g (AL.r qb ?_)); refine AL.nil (AW.seq (AW.cond_t rfl (AW.skip (AW.seq (AW.block (AW.g (AL.r (rd_index_ag (i := 5) rfl ar_23 ag_3 rfl rfl (by first | rfl | omega) (by decide) rfl) ?_))))))); refine AL.ra ?_; refine AL.nil (AW.g (AL.rm ?_)); refine AL.r qb ?_; refine AL.rm ?_; refine AL.fk (d := 11) rfl (fun h11 => ?_) (fun h11 => ?_)
  ·refine AL.n ?_; (iterate 2 refine AL.rf ?_); refine AL.r qt ?_; refine AL.nil (AW.cond_t rfl (AW.g (AL.ra ?_))); refine AL.nil (AW.ret (r1t ?_)); exact nl7
  refine AL.n ?_; refine AL.ro (rd_move rfl rfl) ?_; refine AL.ro qb ?_; refine AL.r qf ?_; refine AL.nil (AW.cd rfl (fun h14 => ?_) (fun h14 => ?_))
  ·refine AW.g (AL.ra ?_); refine AL.nil (AW.ret (r1t ?_)); exact nl7
  refine AW.skip (AW.region (AL.r (rd_arith_add rfl rfl rfl (rfl : _ = (6 : Int))) ?_)); refine AL.rm ?_; refine AL.nil (AW.g (AL.r qb ?_)); refine AL.nil (AW.seq (AW.cond_f rfl (AW.exit ?_))); change AW _ _ _ _ _; refine AW.g (AL.ra ?_); refine AL.nil (AW.ret (r1t ?_)); exact nl7
def edgeB (x : EdgeD) : Bool := tagB x.id && (decide (x.par = ⟨0, 0⟩) || tagB x.par && !decide (x.par = x.id)) && (decide (1 ≤ x.lens.kind) && decide (x.lens.kind ≤ 8)) && rightL x.lens
theorem troot_c : AC Try.prog 65 [] (fun r => r = .s (.ag [AI 0, AI 0])) := by
  refine AC.of' 2 1 Try.func65 rfl ?_; change AW _ _ _ _ [TK.mk 0 .off]; refine AW.g (AL.oq (AOpB.op (oA 0 ze_51 ?_))); refine AL.n ?_; refine AL.nil (AW.g (AL.r (qB pl_51 ze_51) ?_)); refine AL.oq (oS sz_51 ?_); refine AL.n ?_; refine AL.nil (AW.ret (res1 rfl (ResV.cells rfl rfl ag_51 (Nat.le_of_ble_eq_true rfl) rfl) rfl ?_)); rfl
theorem nl8 {a b : Bool} (h : a = b := by simp_all [edgeB, tagD_iff] <;> grind) : RS.s (AB a) = RS.s (AB b) := sb h
theorem tedge_c (x : EdgeD) : AC Try.prog 39 [x.av] (fun r => r = .s (AB (edgeB x))) := by
  change AC _ _ [.ag [AI x.id.rep, AI x.id.n, AI x.par.rep, AI x.par.n, AI x.lens.kind, AI x.lens.at_.scope, AS x.lens.at_.group, AS x.lens.at_.name, AS x.lens.name, AS x.lens.other, AI x.lens.factor, AI x.lens.field.at_.scope, AS x.lens.field.at_.group, AS x.lens.field.at_.name, AI x.lens.field.kind, AS x.lens.field.dflt, .sl (csS x.lens.field.cases), AI x.lens.field.worth, .sl (x.lens.forth.map PairD.cs), .sl (x.lens.back.map PairD.cs)]] _; refine AC.of' 38 1 Try.func39 rfl ?_; change AW _ _ _ _ [TK.mk 0 .off]; refine AW.g (AL.oq (AOpB.op (oB 0 ?_))); refine AL.n ?_; refine AL.ra ?_; refine AL.nil (AW.seq (AW.g (AL.r (qa fo_63_0) ?_))); refine AL.r (qN ag_51) ?_; refine AL.oq (AOpB.op (op_call (tag_c x.id) rfl (by kernel_rfl) rfl (none) ?_)); rintro r rfl; refine AL.n ?_; refine AL.r qu ?_; refine AL.nil (AW.cd rfl (fun h6 => ?_) (fun h6 => ?_))
  ·refine AW.g (AL.ra ?_); refine AL.nil (AW.ret (r1t ?_)); exact nl8
  refine AW.skip (AW.seq (AW.seq (AW.draw (by kernel_rfl) ?_))); refine AD.r 0 rfl (qa fo_63_1) rfl ?_; refine AD.r 1 rfl (qN ag_51) rfl ?_; refine AD.move 2 rfl (by kernel_rfl) rfl (op_call (troot_c) rfl (by kernel_rfl) rfl (none) ?_); rintro r rfl; refine AD.n ?_; refine AD.r 3 rfl (rd_ne_Tag rfl rfl rfl) rfl ?_; refine AD.r 4 rfl (rd_move rfl rfl) rfl ?_; refine AD.fk (d := 11) rfl (fun h11 => ?_) (fun h11 => ?_)
  ·refine AD.n ?_; refine AD.r 5 rfl (qa fo_63_1) ⟨_, _, rfl, rfl, rfl⟩ ?_; refine AD.r 6 rfl (qN ag_51) ⟨_, _, rfl, rfl, rfl⟩ ?_; refine AD.move 7 rfl (by kernel_rfl) ⟨_, _, rfl, rfl, rfl⟩ (op_call (tag_c x.par) rfl (by kernel_rfl) rfl (none) ?_); rintro r rfl; refine AD.n ?_; refine AD.r 8 rfl qu ⟨_, _, rfl, rfl, rfl⟩ ?_; refine AD.r 9 rfl (rd_move rfl rfl) ⟨_, _, rfl, rfl, rfl⟩ ?_; refine AD.fk (d := 16) rfl (fun h16 => ?_) (fun h16 => ?_)
   ·refine AD.n ?_; refine AD.s 10 rfl ⟨_, _, rfl, rfl, rfl⟩ ?_; refine AD.s 11 rfl ⟨_, _, rfl, rfl, rfl⟩ ?_; refine AD.s 12 rfl ⟨_, _, rfl, rfl, rfl⟩ ?_; refine AD.s 13 rfl ⟨_, _, rfl, rfl, rfl⟩ ?_; refine AD.s 14 rfl ⟨_, _, rfl, rfl, rfl⟩ ?_; refine AD.r 15 rfl (rd_pick_t rfl rfl rfl) ⟨_, _, rfl, rfl, rfl⟩ ?_; refine AD.r 16 rfl (rd_pick_t rfl rfl rfl) rfl ?_; refine AD.done (by kernel_rfl) ?_; change AW _ _ _ _ _; refine AW.cond_t rfl (AW.g (AL.ra ?_)); refine AL.nil (AW.ret (r1t ?_)); exact nl8
   refine AD.n ?_; refine AD.r 10 rfl (qa fo_63_1) ⟨_, _, rfl, rfl, rfl⟩ ?_; refine AD.r 11 rfl (qN ag_51) ⟨_, _, rfl, rfl, rfl⟩ ?_; refine AD.r 12 rfl (qa fo_63_0) ⟨_, _, rfl, rfl, rfl⟩ ?_; refine AD.r 13 rfl (qN ag_51) ⟨_, _, rfl, rfl, rfl⟩ ?_; refine AD.r 14 rfl (rd_eq_Tag rfl rfl rfl) ⟨_, _, rfl, rfl, rfl⟩ ?_; refine AD.r 15 rfl (rd_pick_f rfl rfl rfl) ⟨_, _, rfl, rfl, rfl⟩ ?_; refine AD.r 16 rfl (rd_pick_t rfl rfl rfl) rfl ?_; refine AD.done (by kernel_rfl) ?_; change AW _ _ _ _ _; refine AW.cd rfl (fun h23 => ?_) (fun h23 => ?_)
   ·refine AW.g (AL.ra ?_); refine AL.nil (AW.ret (r1t ?_)); exact nl8
   refine AW.skip (AW.g (AL.r (qa fo_63_2) ?_)); refine AL.r (qa fo_61_0) ?_; refine AL.r (ql ag_3) ?_; refine AL.r qb ?_; refine AL.rm ?_; refine AL.fk (d := 28) rfl (fun h28 => ?_) (fun h28 => ?_)
   ·refine AL.n ?_; refine AL.ro (qa fo_63_2) ?_; refine AL.ro (qa fo_61_0) ?_; refine AL.ro (ql ag_3) ?_; refine AL.ro qb ?_; refine AL.r qt ?_; refine AL.rm ?_; refine AL.fk (d := 34) rfl (fun h34 => ?_) (fun h34 => ?_)
    ·refine AL.n ?_; refine AL.ro (qa fo_63_2) ?_; refine AL.ro (qN ag_61) ?_; refine AL.on rfl rfl rfl (AOpB.op (op_call (lright_c x.lens) rfl (by kernel_rfl) rfl (none) ?_)); rintro r rfl; refine AL.n ?_; refine AL.r qt ?_; refine AL.ra ?_; refine AL.nil (AW.ret (r1t ?_)); exact nl8
    refine AL.n ?_; (iterate 3 refine AL.rf ?_); refine AL.r qf ?_; refine AL.ra ?_; refine AL.nil (AW.ret (r1t ?_)); exact nl8
   refine AL.n ?_; (iterate 4 refine AL.rf ?_); refine AL.r qf ?_; refine AL.rm ?_; (iterate 3 refine AL.rf ?_); refine AL.r qf ?_; refine AL.ra ?_; refine AL.nil (AW.ret (r1t ?_)); exact nl8
  refine AD.n ?_; refine AD.s 5 rfl ⟨_, _, rfl, rfl, rfl⟩ ?_; refine AD.s 6 rfl ⟨_, _, rfl, rfl, rfl⟩ ?_; refine AD.s 7 rfl ⟨_, _, rfl, rfl, rfl⟩ ?_; refine AD.s 8 rfl ⟨_, _, rfl, rfl, rfl⟩ ?_; refine AD.s 9 rfl ⟨_, _, rfl, rfl, rfl⟩ ?_; refine AD.s 10 rfl ⟨_, _, rfl, rfl, rfl⟩ ?_; refine AD.s 11 rfl ⟨_, _, rfl, rfl, rfl⟩ ?_; refine AD.s 12 rfl ⟨_, _, rfl, rfl, rfl⟩ ?_; refine AD.s 13 rfl ⟨_, _, rfl, rfl, rfl⟩ ?_; refine AD.s 14 rfl ⟨_, _, rfl, rfl, rfl⟩ ?_; refine AD.s 15 rfl ⟨_, _, rfl, rfl, rfl⟩ ?_; refine AD.r 16 rfl (rd_pick_f rfl rfl rfl) rfl ?_; refine AD.done (by kernel_rfl) ?_; change AW _ _ _ _ _; refine AW.cond_f rfl (AW.skip (AW.g (AL.r (qa fo_63_2) ?_))); refine AL.r (qa fo_61_0) ?_; refine AL.r (ql ag_3) ?_; refine AL.r qb ?_; refine AL.rm ?_; refine AL.fk (d := 28) rfl (fun h28 => ?_) (fun h28 => ?_)
  ·refine AL.n ?_; refine AL.ro (qa fo_63_2) ?_; refine AL.ro (qa fo_61_0) ?_; refine AL.ro (ql ag_3) ?_; refine AL.ro qb ?_; refine AL.r qt ?_; refine AL.rm ?_; refine AL.fk (d := 34) rfl (fun h34 => ?_) (fun h34 => ?_)
   ·refine AL.n ?_; refine AL.ro (qa fo_63_2) ?_; refine AL.ro (qN ag_61) ?_; refine AL.on rfl rfl rfl (AOpB.op (op_call (lright_c x.lens) rfl (by kernel_rfl) rfl (none) ?_)); rintro r rfl; refine AL.n ?_; refine AL.r qt ?_; refine AL.ra ?_; refine AL.nil (AW.ret (r1t ?_)); exact nl8
   refine AL.n ?_; (iterate 3 refine AL.rf ?_); refine AL.r qf ?_; refine AL.ra ?_; refine AL.nil (AW.ret (r1t ?_)); exact nl8
  refine AL.n ?_; (iterate 4 refine AL.rf ?_); refine AL.r qf ?_; refine AL.rm ?_; (iterate 3 refine AL.rf ?_); refine AL.r qf ?_; refine AL.ra ?_; refine AL.nil (AW.ret (r1t ?_)); exact nl8
end Go.Proofs.Ytlapcfnmmpbeeaa
