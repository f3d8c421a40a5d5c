/- Fields' places, walked over abstract states. No conditions. -/
import Derived.Test.YtpkjlmaphhileaaDoorTy
namespace Go.Proofs.YtpkjlmaphhileaaDoor
set_option linter.unusedSimpArgs false
set_option linter.unusedVariables false
set_option maxRecDepth 100000
open Go.RowKit

structure RefD where
  scope : Int
  group : Bytes
  name : Bytes
deriving DecidableEq
def RefD.cs (r : RefD) : List AV := [AI r.scope, AS r.group, AS r.name]
abbrev RefD.av (r : RefD) : AV := .ag r.cs
def lessR (a b : RefD) : Bool := if a.scope ≠ b.scope then decide (a.scope < b.scope) else if a.group ≠ b.group then Op.bytesLess a.group b.group else Op.bytesLess a.name b.name

theorem eq_Ref (x y : Operand) (s1 s2 : Int) (g1 g2 n1 n2 : Bytes) (w : World) : (eqGuard .eql 23 x y (.agg #[.int .i64 s1, sv g1, sv n1]) (.agg #[.int .i64 s2, sv g2, sv n2]) >>= fun _ => binOp .eql 23 (.agg #[.int .i64 s1, sv g1, sv n1]) (.agg #[.int .i64 s2, sv g2, sv n2])).run Tryd.prog w = .ok (.bool (decide (RefD.mk s1 g1 n1 = RefD.mk s2 g2 n2))) w := by
  go_simp
  by_cases h1 : s1 = s2 <;> by_cases h2 : g1 = g2 <;> by_cases h3 : n1 = n2 <;> simp [h1, h2, h3]
theorem ne_Ref (x y : Operand) (s1 s2 : Int) (g1 g2 n1 n2 : Bytes) (w : World) : (eqGuard .neq 23 x y (.agg #[.int .i64 s1, sv g1, sv n1]) (.agg #[.int .i64 s2, sv g2, sv n2]) >>= fun _ => binOp .neq 23 (.agg #[.int .i64 s1, sv g1, sv n1]) (.agg #[.int .i64 s2, sv g2, sv n2])).run Tryd.prog w = .ok (.bool (!decide (RefD.mk s1 g1 n1 = RefD.mk s2 g2 n2))) w := by
  go_simp
  by_cases h1 : s1 = s2 <;> by_cases h2 : g1 = g2 <;> by_cases h3 : n1 = n2 <;> simp [h1, h2, h3]
section
variable {o : Oper} {t : List AV} {st : List TK} {x y : Operand} {yt : TypeId} {s1 s2 : Int} {g1 g2 n1 n2 : Bytes}
theorem rd_eq_Ref (ho : o.op = .binOp .eql 23 x y yt) (hx : evV t x = some (.agg #[.int .i64 s1, sv g1, sv n1])) (hy : evV t y = some (.agg #[.int .i64 s2, sv g2, sv n2])) : ARd Tryd.prog o t st (AB (decide (RefD.mk s1 g1 n1 = RefD.mk s2 g2 n2))) := rd_bin ho hx hy (eq_Ref x y s1 s2 g1 g2 n1 n2)
theorem rd_ne_Ref (ho : o.op = .binOp .neq 23 x y yt) (hx : evV t x = some (.agg #[.int .i64 s1, sv g1, sv n1])) (hy : evV t y = some (.agg #[.int .i64 s2, sv g2, sv n2])) : ARd Tryd.prog o t st (AB (!decide (RefD.mk s1 g1 n1 = RefD.mk s2 g2 n2))) := rd_bin ho hx hy (ne_Ref x y s1 s2 g1 g2 n1 n2)
end
theorem less_c (a b : RefD) : AC Tryd.prog 14 [a.av, b.av] (fun r => r = .s (AB (lessR a b))) := by
  refine AC.of' 28 2 Tryd.func14 rfl ?_
  change AW _ _ _ _ [TK.mk 0 .off, TK.mk 0 .off]
  refine AW.seq ?_
  refine AW.region ?_
  refine AL.op rfl (AOpB.op (op_box 0 rfl rfl rfl rfl rfl ?_))
  refine AL.n ?_
  refine AL.op rfl (AOpB.op (op_box 1 rfl rfl rfl rfl rfl ?_))
  refine AL.n ?_
  refine AL.ra ?_
  refine AL.nil ?_
  change AW _ _ _ _ _
  refine AW.seq ?_
  refine AW.seq ?_
  refine AW.region ?_
  refine AL.r (rd_faddr_bx rfl fo_23_0 rfl rfl ⟨_, _, rfl⟩) ?_
  refine AL.r (rd_load_bx rfl ag_3 rfl rfl rfl) ?_
  refine AL.r (rd_faddr_bx rfl fo_23_0 rfl rfl ⟨_, _, rfl⟩) ?_
  refine AL.r (rd_load_bx rfl ag_3 rfl rfl rfl) ?_
  refine AL.r (rd_bin rfl rfl rfl (fun _ => rfl)) ?_
  refine AL.nil ?_
  change AW _ _ _ _ _
  refine AW.cd rfl (fun h9 => ?_) (fun h9 => ?_)
  ·skip
   refine AW.seq ?_
   refine AW.region ?_
   refine AL.r (rd_faddr_bx rfl fo_23_0 rfl rfl ⟨_, _, rfl⟩) ?_
   refine AL.r (rd_load_bx rfl ag_3 rfl rfl rfl) ?_
   refine AL.r (rd_faddr_bx rfl fo_23_0 rfl rfl ⟨_, _, rfl⟩) ?_
   refine AL.r (rd_load_bx rfl ag_3 rfl rfl rfl) ?_
   refine AL.r (rd_bin rfl rfl rfl (fun _ => rfl)) ?_
   refine AL.ra ?_
   refine AL.nil ?_
   change AW _ _ _ _ _
   refine AW.ret ?_
   change ResA _ _ _ _ _
   refine res1 rfl (ResV.tmp rfl) rfl ?_
   simp_all [lessR]
  ·skip
   refine AW.skip ?_
   change AW _ _ _ _ _
   refine AW.seq ?_
   refine AW.seq ?_
   refine AW.region ?_
   refine AL.r (rd_faddr_bx rfl fo_23_1 rfl rfl ⟨_, _, rfl⟩) ?_
   refine AL.r (rd_load_bx rfl ag_9 rfl rfl rfl) ?_
   refine AL.r (rd_faddr_bx rfl fo_23_1 rfl rfl ⟨_, _, rfl⟩) ?_
   refine AL.r (rd_load_bx rfl ag_9 rfl rfl rfl) ?_
   refine AL.r (rd_sne rfl rfl rfl) ?_
   refine AL.nil ?_
   change AW _ _ _ _ _
   refine AW.cd rfl (fun h19 => ?_) (fun h19 => ?_)
   ·skip
    refine AW.seq ?_
    refine AW.region ?_
    refine AL.r (rd_faddr_bx rfl fo_23_1 rfl rfl ⟨_, _, rfl⟩) ?_
    refine AL.r (rd_load_bx rfl ag_9 rfl rfl rfl) ?_
    refine AL.r (rd_faddr_bx rfl fo_23_1 rfl rfl ⟨_, _, rfl⟩) ?_
    refine AL.r (rd_load_bx rfl ag_9 rfl rfl rfl) ?_
    refine AL.r (rd_slt rfl rfl rfl) ?_
    refine AL.ra ?_
    refine AL.nil ?_
    change AW _ _ _ _ _
    refine AW.ret ?_
    change ResA _ _ _ _ _
    refine res1 rfl (ResV.tmp rfl) rfl ?_
    simp_all [lessR]
   ·skip
    refine AW.skip ?_
    change AW _ _ _ _ _
    refine AW.seq ?_
    refine AW.region ?_
    refine AL.r (rd_faddr_bx rfl fo_23_2 rfl rfl ⟨_, _, rfl⟩) ?_
    refine AL.r (rd_load_bx rfl ag_9 rfl rfl rfl) ?_
    refine AL.r (rd_faddr_bx rfl fo_23_2 rfl rfl ⟨_, _, rfl⟩) ?_
    refine AL.r (rd_load_bx rfl ag_9 rfl rfl rfl) ?_
    refine AL.r (rd_slt rfl rfl rfl) ?_
    refine AL.ra ?_
    refine AL.nil ?_
    change AW _ _ _ _ _
    refine AW.ret ?_
    change ResA _ _ _ _ _
    refine res1 rfl (ResV.tmp rfl) rfl ?_
    simp_all [lessR]
end Go.Proofs.YtpkjlmaphhileaaDoor
