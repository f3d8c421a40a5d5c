/- Tags and ops as data, walked over abstract states. No conditions. -/
import Derived.Test.YtpkjlmaphhileaaDoorSchR
namespace Go.Proofs.YtpkjlmaphhileaaDoor
set_option linter.unusedSimpArgs false
set_option linter.unusedVariables false
open Go.RowKit

structure TagD where
  rep : Int
  n : Int
deriving DecidableEq
def TagD.cs (t : TagD) : List AV := [AI t.rep, AI t.n]
abbrev TagD.av (t : TagD) : AV := .ag t.cs
structure OpD where
  id : TagD
  schema : TagD
  time : Int
  cart : Bytes
  kind : Int
  item : Bytes
  at_ : RefD
  delta : Int
  has : Bool
  text : Bytes
  drops : List TagD
deriving DecidableEq
def OpD.cs (o : OpD) : List AV := [AI o.id.rep, AI o.id.n, AI o.schema.rep, AI o.schema.n, AI o.time, AS o.cart, AI o.kind, AS o.item, AI o.at_.scope, AS o.at_.group, AS o.at_.name, AI o.delta, AB o.has, AS o.text, .sl (o.drops.map TagD.cs)]
abbrev OpD.av (o : OpD) : AV := .ag o.cs
def lessT (a b : TagD) : Bool := if a.rep ≠ b.rep then decide (a.rep < b.rep) else decide (a.n < b.n)
def lessO (a b : OpD) : Bool := if a.time ≠ b.time then decide (a.time < b.time) else lessT a.id b.id
def tagB (t : TagD) : Bool := decide (1 ≤ t.rep) && decide (t.rep ≤ 6) && decide (1 ≤ t.n) && decide (t.n ≤ 1099511627776)
theorem eq_Tag (x y : Operand) (a1 a2 b1 b2 : Int) (w : World) : (eqGuard .eql 72 x y (.agg #[.int .i64 a1, .int .i64 a2]) (.agg #[.int .i64 b1, .int .i64 b2]) >>= fun _ => binOp .eql 72 (.agg #[.int .i64 a1, .int .i64 a2]) (.agg #[.int .i64 b1, .int .i64 b2])).run Tryd.prog w = .ok (.bool (decide (TagD.mk a1 a2 = TagD.mk b1 b2))) w := by
  go_simp
  by_cases h1 : a1 = b1 <;> by_cases h2 : a2 = b2 <;> simp [h1, h2]
theorem ne_Tag (x y : Operand) (a1 a2 b1 b2 : Int) (w : World) : (eqGuard .neq 72 x y (.agg #[.int .i64 a1, .int .i64 a2]) (.agg #[.int .i64 b1, .int .i64 b2]) >>= fun _ => binOp .neq 72 (.agg #[.int .i64 a1, .int .i64 a2]) (.agg #[.int .i64 b1, .int .i64 b2])).run Tryd.prog w = .ok (.bool (!decide (TagD.mk a1 a2 = TagD.mk b1 b2))) w := by
  go_simp
  by_cases h1 : a1 = b1 <;> by_cases h2 : a2 = b2 <;> simp [h1, h2]
section
variable {o : Oper} {t : List AV} {st : List TK} {x y : Operand} {yt : TypeId} {a1 a2 b1 b2 : Int}
theorem rd_eq_Tag (ho : o.op = .binOp .eql 72 x y yt) (hx : evV t x = some (.agg #[.int .i64 a1, .int .i64 a2])) (hy : evV t y = some (.agg #[.int .i64 b1, .int .i64 b2])) : ARd Tryd.prog o t st (AB (decide (TagD.mk a1 a2 = TagD.mk b1 b2))) := rd_bin ho hx hy (eq_Tag x y a1 a2 b1 b2)
theorem rd_ne_Tag (ho : o.op = .binOp .neq 72 x y yt) (hx : evV t x = some (.agg #[.int .i64 a1, .int .i64 a2])) (hy : evV t y = some (.agg #[.int .i64 b1, .int .i64 b2])) : ARd Tryd.prog o t st (AB (!decide (TagD.mk a1 a2 = TagD.mk b1 b2))) := rd_bin ho hx hy (ne_Tag x y a1 a2 b1 b2)
end
def heavyO (o : OpD) : Bool := decide (200 < o.cart.length) || decide (200 < o.item.length) || decide (200 < o.at_.group.length) || decide (200 < o.at_.name.length) || decide (200 < o.text.length) || decide (200 < o.drops.length)
end Go.Proofs.YtpkjlmaphhileaaDoor
