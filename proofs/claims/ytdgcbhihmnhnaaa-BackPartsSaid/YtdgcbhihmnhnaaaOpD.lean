/- Tags and ops as data, walked over abstract states. No conditions. -/
import Derived.Test.YtdgcbhihmnhnaaaSchR
namespace Go.Proofs.Ytdgcbhihmnhnaaa
set_option linter.unusedSimpArgs false
set_option linter.unusedVariables false
set_option maxRecDepth 100000
open Go.RowKit

structure TagD where
  rep : Int
  n : Int
deriving DecidableEq
def TagD.cs (t : TagD) : List AV := [AI t.rep, AI t.n]
abbrev TagD.av (t : TagD) : AV := .ag t.cs
structure OpD where
  id : TagD
  schema : TagD
  time : Int
  cart : Bytes
  kind : Int
  item : Bytes
  at_ : RefD
  delta : Int
  has : Bool
  text : Bytes
  drops : List TagD
deriving DecidableEq
def OpD.cs (o : OpD) : List AV := [AI o.id.rep, AI o.id.n, AI o.schema.rep, AI o.schema.n, AI o.time, AS o.cart, AI o.kind, AS o.item, AI o.at_.scope, AS o.at_.group, AS o.at_.name, AI o.delta, AB o.has, AS o.text, .sl (o.drops.map TagD.cs)]
abbrev OpD.av (o : OpD) : AV := .ag o.cs
def lessT (a b : TagD) : Bool := if a.rep ≠ b.rep then decide (a.rep < b.rep) else decide (a.n < b.n)
def lessO (a b : OpD) : Bool := if a.time ≠ b.time then decide (a.time < b.time) else lessT a.id b.id
def tagB (t : TagD) : Bool := decide (1 ≤ t.rep) && decide (t.rep ≤ 6) && decide (1 ≤ t.n) && decide (t.n ≤ 1099511627776)
theorem eq_Tag (x y : Operand) (a1 a2 b1 b2 : Int) (w : World) : (eqGuard .eql 124 x y (.agg #[.int .i64 a1, .int .i64 a2]) (.agg #[.int .i64 b1, .int .i64 b2]) >>= fun _ => binOp .eql 124 (.agg #[.int .i64 a1, .int .i64 a2]) (.agg #[.int .i64 b1, .int .i64 b2])).run Try.prog w = .ok (.bool (decide (TagD.mk a1 a2 = TagD.mk b1 b2))) w := by
  go_simp
  by_cases h1 : a1 = b1 <;> by_cases h2 : a2 = b2 <;> simp [h1, h2]
theorem ne_Tag (x y : Operand) (a1 a2 b1 b2 : Int) (w : World) : (eqGuard .neq 124 x y (.agg #[.int .i64 a1, .int .i64 a2]) (.agg #[.int .i64 b1, .int .i64 b2]) >>= fun _ => binOp .neq 124 (.agg #[.int .i64 a1, .int .i64 a2]) (.agg #[.int .i64 b1, .int .i64 b2])).run Try.prog w = .ok (.bool (!decide (TagD.mk a1 a2 = TagD.mk b1 b2))) w := by
  go_simp
  by_cases h1 : a1 = b1 <;> by_cases h2 : a2 = b2 <;> simp [h1, h2]
section
variable {o : Oper} {t : List AV} {st : List TK} {x y : Operand} {yt : TypeId} {a1 a2 b1 b2 : Int}
theorem rd_eq_Tag (ho : o.op = .binOp .eql 124 x y yt) (hx : evV t x = some (.agg #[.int .i64 a1, .int .i64 a2])) (hy : evV t y = some (.agg #[.int .i64 b1, .int .i64 b2])) : ARd Try.prog o t st (AB (decide (TagD.mk a1 a2 = TagD.mk b1 b2))) := rd_bin ho hx hy (eq_Tag x y a1 a2 b1 b2)
theorem rd_ne_Tag (ho : o.op = .binOp .neq 124 x y yt) (hx : evV t x = some (.agg #[.int .i64 a1, .int .i64 a2])) (hy : evV t y = some (.agg #[.int .i64 b1, .int .i64 b2])) : ARd Try.prog o t st (AB (!decide (TagD.mk a1 a2 = TagD.mk b1 b2))) := rd_bin ho hx hy (ne_Tag x y a1 a2 b1 b2)
end
theorem tless_c (a b : TagD) : AC Try.prog 165 [a.av, b.av] (fun r => r = .s (AB (lessT a b))) := by
  refine AC.of' 18 2 Try.func165 rfl ?_
  change AW _ _ _ _ [TK.mk 0 .off, TK.mk 0 .off]
  refine AW.seq ?_
  refine AW.region ?_
  refine AL.op rfl (AOpB.op (op_box 0 rfl rfl rfl rfl rfl ?_))
  refine AL.n ?_
  refine AL.op rfl (AOpB.op (op_box 1 rfl rfl rfl rfl rfl ?_))
  refine AL.n ?_
  refine AL.ra ?_
  refine AL.nil ?_
  change AW _ _ _ _ _
  refine AW.seq ?_
  refine AW.seq ?_
  refine AW.region ?_
  refine AL.r (rd_faddr_bx rfl fo_124_0 rfl rfl ⟨_, _, rfl⟩) ?_
  refine AL.r (rd_load_bx rfl ag_3 rfl rfl rfl) ?_
  refine AL.r (rd_faddr_bx rfl fo_124_0 rfl rfl ⟨_, _, rfl⟩) ?_
  refine AL.r (rd_load_bx rfl ag_3 rfl rfl rfl) ?_
  refine AL.r (rd_bin rfl rfl rfl (fun _ => rfl)) ?_
  refine AL.nil ?_
  change AW _ _ _ _ _
  refine AW.cd rfl (fun h9 => ?_) (fun h9 => ?_)
  ·skip
   refine AW.seq ?_
   refine AW.region ?_
   refine AL.r (rd_faddr_bx rfl fo_124_0 rfl rfl ⟨_, _, rfl⟩) ?_
   refine AL.r (rd_load_bx rfl ag_3 rfl rfl rfl) ?_
   refine AL.r (rd_faddr_bx rfl fo_124_0 rfl rfl ⟨_, _, rfl⟩) ?_
   refine AL.r (rd_load_bx rfl ag_3 rfl rfl rfl) ?_
   refine AL.r (rd_bin rfl rfl rfl (fun _ => rfl)) ?_
   refine AL.ra ?_
   refine AL.nil ?_
   change AW _ _ _ _ _
   refine AW.ret ?_
   change ResA _ _ _ _ _
   refine res1 rfl (ResV.tmp rfl) rfl ?_
   simp_all [lessT]
  ·skip
   refine AW.skip ?_
   change AW _ _ _ _ _
   refine AW.seq ?_
   refine AW.region ?_
   refine AL.r (rd_faddr_bx rfl fo_124_1 rfl rfl ⟨_, _, rfl⟩) ?_
   refine AL.r (rd_load_bx rfl ag_3 rfl rfl rfl) ?_
   refine AL.r (rd_faddr_bx rfl fo_124_1 rfl rfl ⟨_, _, rfl⟩) ?_
   refine AL.r (rd_load_bx rfl ag_3 rfl rfl rfl) ?_
   refine AL.r (rd_bin rfl rfl rfl (fun _ => rfl)) ?_
   refine AL.ra ?_
   refine AL.nil ?_
   change AW _ _ _ _ _
   refine AW.ret ?_
   change ResA _ _ _ _ _
   refine res1 rfl (ResV.tmp rfl) rfl ?_
   simp_all [lessT]
theorem tag_c (a : TagD) : AC Try.prog 164 [a.av] (fun r => r = .s (AB (tagB a))) := by
  refine AC.of' 20 1 Try.func164 rfl ?_
  change AW _ _ _ _ [TK.mk 0 .off]
  refine AW.seq ?_
  refine AW.region ?_
  refine AL.op rfl (AOpB.op (op_box 0 rfl rfl rfl rfl rfl ?_))
  refine AL.n ?_
  refine AL.ra ?_
  refine AL.nil ?_
  change AW _ _ _ _ _
  refine AW.seq ?_
  refine AW.region ?_
  refine AL.r (rd_faddr_bx rfl fo_124_0 rfl rfl ⟨_, _, rfl⟩) ?_
  refine AL.r (rd_load_bx rfl ag_3 rfl rfl rfl) ?_
  refine AL.r (rd_bin rfl rfl rfl (fun _ => rfl)) ?_
  refine AL.rm ?_
  refine AL.fk (d := 6) rfl (fun h6 => ?_) (fun h6 => ?_)
  ·skip
   refine AL.n ?_
   refine AL.ro (rd_faddr_bx rfl fo_124_0 rfl rfl ⟨_, _, rfl⟩) ?_
   refine AL.ro (rd_load_bx rfl ag_3 rfl rfl rfl) ?_
   refine AL.ro (rd_bin rfl rfl rfl (fun _ => rfl)) ?_
   refine AL.r (rd_pick_t rfl rfl rfl) ?_
   refine AL.rm ?_
   refine AL.fk (d := 11) rfl (fun h11 => ?_) (fun h11 => ?_)
   ·skip
    refine AL.n ?_
    refine AL.ro (rd_faddr_bx rfl fo_124_1 rfl rfl ⟨_, _, rfl⟩) ?_
    refine AL.ro (rd_load_bx rfl ag_3 rfl rfl rfl) ?_
    refine AL.ro (rd_bin rfl rfl rfl (fun _ => rfl)) ?_
    refine AL.r (rd_pick_t rfl rfl rfl) ?_
    refine AL.rm ?_
    refine AL.fk (d := 16) rfl (fun h16 => ?_) (fun h16 => ?_)
    ·skip
     refine AL.n ?_
     refine AL.ro (rd_faddr_bx rfl fo_124_1 rfl rfl ⟨_, _, rfl⟩) ?_
     refine AL.ro (rd_load_bx rfl ag_3 rfl rfl rfl) ?_
     refine AL.ro (rd_bin rfl rfl rfl (fun _ => rfl)) ?_
     refine AL.r (rd_pick_t rfl rfl rfl) ?_
     refine AL.ra ?_
     refine AL.nil ?_
     change AW _ _ _ _ _
     refine AW.ret ?_
     change ResA _ _ _ _ _
     refine res1 rfl (ResV.tmp rfl) rfl ?_
     (first | (simp_all [tagB]; done) | (simp_all [tagB]; omega))
    ·skip
     refine AL.n ?_
     refine AL.rf ?_
     refine AL.rf ?_
     refine AL.rf ?_
     refine AL.r (rd_pick_f rfl rfl rfl) ?_
     refine AL.ra ?_
     refine AL.nil ?_
     change AW _ _ _ _ _
     refine AW.ret ?_
     change ResA _ _ _ _ _
     refine res1 rfl (ResV.tmp rfl) rfl ?_
     (first | (simp_all [tagB]; done) | (simp_all [tagB]; omega))
   ·skip
    refine AL.n ?_
    refine AL.rf ?_
    refine AL.rf ?_
    refine AL.rf ?_
    refine AL.r (rd_pick_f rfl rfl rfl) ?_
    refine AL.rm ?_
    refine AL.rf ?_
    refine AL.rf ?_
    refine AL.rf ?_
    refine AL.r (rd_pick_f rfl rfl rfl) ?_
    refine AL.ra ?_
    refine AL.nil ?_
    change AW _ _ _ _ _
    refine AW.ret ?_
    change ResA _ _ _ _ _
    refine res1 rfl (ResV.tmp rfl) rfl ?_
    (first | (simp_all [tagB]; done) | (simp_all [tagB]; omega))
  ·skip
   refine AL.n ?_
   refine AL.rf ?_
   refine AL.rf ?_
   refine AL.rf ?_
   refine AL.r (rd_pick_f rfl rfl rfl) ?_
   refine AL.rm ?_
   refine AL.rf ?_
   refine AL.rf ?_
   refine AL.rf ?_
   refine AL.r (rd_pick_f rfl rfl rfl) ?_
   refine AL.rm ?_
   refine AL.rf ?_
   refine AL.rf ?_
   refine AL.rf ?_
   refine AL.r (rd_pick_f rfl rfl rfl) ?_
   refine AL.ra ?_
   refine AL.nil ?_
   change AW _ _ _ _ _
   refine AW.ret ?_
   change ResA _ _ _ _ _
   refine res1 rfl (ResV.tmp rfl) rfl ?_
   (first | (simp_all [tagB]; done) | (simp_all [tagB]; omega))
def heavyO (o : OpD) : Bool := decide (200 < o.cart.length) || decide (200 < o.item.length) || decide (200 < o.at_.group.length) || decide (200 < o.at_.name.length) || decide (200 < o.text.length) || decide (200 < o.drops.length)
theorem oheavy_c (o : OpD) : AC Try.prog 129 [o.av] (fun r => r = .s (AB (heavyO o))) := by
  refine AC.of' 38 1 Try.func129 rfl ?_
  change AW _ _ _ _ [TK.mk 0 .off]
  refine AW.seq ?_
  refine AW.region ?_
  refine AL.op rfl (AOpB.op (op_box 0 rfl rfl rfl rfl rfl ?_))
  refine AL.n ?_
  refine AL.ra ?_
  refine AL.nil ?_
  change AW _ _ _ _ _
  refine AW.seq ?_
  refine AW.region ?_
  refine AL.r (rd_faddr_bx rfl fo_132_3 rfl rfl ⟨_, _, rfl⟩) ?_
  refine AL.r (rd_load_bx rfl ag_9 rfl rfl rfl) ?_
  refine AL.r (rd_len_str rfl str_9 rfl) ?_
  refine AL.r (rd_bin rfl rfl rfl (fun _ => rfl)) ?_
  refine AL.rm ?_
  refine AL.fk (d := 7) rfl (fun h7 => ?_) (fun h7 => ?_)
  ·skip
   refine AL.n ?_
   refine AL.rf ?_
   refine AL.rf ?_
   refine AL.rf ?_
   refine AL.rf ?_
   refine AL.r (rd_pick_t rfl rfl rfl) ?_
   refine AL.rm ?_
   refine AL.rf ?_
   refine AL.rf ?_
   refine AL.rf ?_
   refine AL.rf ?_
   refine AL.rf ?_
   refine AL.r (rd_pick_t rfl rfl rfl) ?_
   refine AL.rm ?_
   refine AL.rf ?_
   refine AL.rf ?_
   refine AL.rf ?_
   refine AL.rf ?_
   refine AL.rf ?_
   refine AL.r (rd_pick_t rfl rfl rfl) ?_
   refine AL.rm ?_
   refine AL.rf ?_
   refine AL.rf ?_
   refine AL.rf ?_
   refine AL.rf ?_
   refine AL.r (rd_pick_t rfl rfl rfl) ?_
   refine AL.rm ?_
   refine AL.rf ?_
   refine AL.rf ?_
   refine AL.rf ?_
   refine AL.rf ?_
   refine AL.r (rd_pick_t rfl rfl rfl) ?_
   refine AL.ra ?_
   refine AL.nil ?_
   change AW _ _ _ _ _
   refine AW.ret ?_
   change ResA _ _ _ _ _
   refine res1 rfl (ResV.tmp rfl) rfl ?_
   (first | (simp_all [heavyO]; done) | (simp_all [heavyO]; omega) | (refine congrArg (fun b => RS.s (AB b)) ?_; rw [Bool.eq_iff_iff]; simp_all [heavyO]; omega) | (refine congrArg (fun b => RS.s (AB b)) ?_; rw [Bool.eq_iff_iff]; simp [heavyO]; omega))
  ·skip
   refine AL.n ?_
   refine AL.ro (rd_faddr_bx rfl fo_132_5 rfl rfl ⟨_, _, rfl⟩) ?_
   refine AL.ro (rd_load_bx rfl ag_9 rfl rfl rfl) ?_
   refine AL.ro (rd_len_str rfl str_9 rfl) ?_
   refine AL.ro (rd_bin rfl rfl rfl (fun _ => rfl)) ?_
   refine AL.r (rd_pick_f rfl rfl rfl) ?_
   refine AL.rm ?_
   refine AL.fk (d := 13) rfl (fun h13 => ?_) (fun h13 => ?_)
   ·skip
    refine AL.n ?_
    refine AL.rf ?_
    refine AL.rf ?_
    refine AL.rf ?_
    refine AL.rf ?_
    refine AL.rf ?_
    refine AL.r (rd_pick_t rfl rfl rfl) ?_
    refine AL.rm ?_
    refine AL.rf ?_
    refine AL.rf ?_
    refine AL.rf ?_
    refine AL.rf ?_
    refine AL.rf ?_
    refine AL.r (rd_pick_t rfl rfl rfl) ?_
    refine AL.rm ?_
    refine AL.rf ?_
    refine AL.rf ?_
    refine AL.rf ?_
    refine AL.rf ?_
    refine AL.r (rd_pick_t rfl rfl rfl) ?_
    refine AL.rm ?_
    refine AL.rf ?_
    refine AL.rf ?_
    refine AL.rf ?_
    refine AL.rf ?_
    refine AL.r (rd_pick_t rfl rfl rfl) ?_
    refine AL.ra ?_
    refine AL.nil ?_
    change AW _ _ _ _ _
    refine AW.ret ?_
    change ResA _ _ _ _ _
    refine res1 rfl (ResV.tmp rfl) rfl ?_
    (first | (simp_all [heavyO]; done) | (simp_all [heavyO]; omega) | (refine congrArg (fun b => RS.s (AB b)) ?_; rw [Bool.eq_iff_iff]; simp_all [heavyO]; omega) | (refine congrArg (fun b => RS.s (AB b)) ?_; rw [Bool.eq_iff_iff]; simp [heavyO]; omega))
   ·skip
    refine AL.n ?_
    refine AL.ro (rd_faddr_bx rfl fo_132_6 rfl rfl ⟨_, _, rfl⟩) ?_
    refine AL.ro (rd_faddr_bx rfl fo_44_1 rfl rfl ⟨_, _, rfl⟩) ?_
    refine AL.ro (rd_load_bx rfl ag_9 rfl rfl rfl) ?_
    refine AL.ro (rd_len_str rfl str_9 rfl) ?_
    refine AL.ro (rd_bin rfl rfl rfl (fun _ => rfl)) ?_
    refine AL.r (rd_pick_f rfl rfl rfl) ?_
    refine AL.rm ?_
    refine AL.fk (d := 20) rfl (fun h20 => ?_) (fun h20 => ?_)
    ·skip
     refine AL.n ?_
     refine AL.rf ?_
     refine AL.rf ?_
     refine AL.rf ?_
     refine AL.rf ?_
     refine AL.rf ?_
     refine AL.r (rd_pick_t rfl rfl rfl) ?_
     refine AL.rm ?_
     refine AL.rf ?_
     refine AL.rf ?_
     refine AL.rf ?_
     refine AL.rf ?_
     refine AL.r (rd_pick_t rfl rfl rfl) ?_
     refine AL.rm ?_
     refine AL.rf ?_
     refine AL.rf ?_
     refine AL.rf ?_
     refine AL.rf ?_
     refine AL.r (rd_pick_t rfl rfl rfl) ?_
     refine AL.ra ?_
     refine AL.nil ?_
     change AW _ _ _ _ _
     refine AW.ret ?_
     change ResA _ _ _ _ _
     refine res1 rfl (ResV.tmp rfl) rfl ?_
     (first | (simp_all [heavyO]; done) | (simp_all [heavyO]; omega) | (refine congrArg (fun b => RS.s (AB b)) ?_; rw [Bool.eq_iff_iff]; simp_all [heavyO]; omega) | (refine congrArg (fun b => RS.s (AB b)) ?_; rw [Bool.eq_iff_iff]; simp [heavyO]; omega))
    ·skip
     refine AL.n ?_
     refine AL.ro (rd_faddr_bx rfl fo_132_6 rfl rfl ⟨_, _, rfl⟩) ?_
     refine AL.ro (rd_faddr_bx rfl fo_44_2 rfl rfl ⟨_, _, rfl⟩) ?_
     refine AL.ro (rd_load_bx rfl ag_9 rfl rfl rfl) ?_
     refine AL.ro (rd_len_str rfl str_9 rfl) ?_
     refine AL.ro (rd_bin rfl rfl rfl (fun _ => rfl)) ?_
     refine AL.r (rd_pick_f rfl rfl rfl) ?_
     refine AL.rm ?_
     refine AL.fk (d := 27) rfl (fun h27 => ?_) (fun h27 => ?_)
     ·skip
      refine AL.n ?_
      refine AL.rf ?_
      refine AL.rf ?_
      refine AL.rf ?_
      refine AL.rf ?_
      refine AL.r (rd_pick_t rfl rfl rfl) ?_
      refine AL.rm ?_
      refine AL.rf ?_
      refine AL.rf ?_
      refine AL.rf ?_
      refine AL.rf ?_
      refine AL.r (rd_pick_t rfl rfl rfl) ?_
      refine AL.ra ?_
      refine AL.nil ?_
      change AW _ _ _ _ _
      refine AW.ret ?_
      change ResA _ _ _ _ _
      refine res1 rfl (ResV.tmp rfl) rfl ?_
      (first | (simp_all [heavyO]; done) | (simp_all [heavyO]; omega) | (refine congrArg (fun b => RS.s (AB b)) ?_; rw [Bool.eq_iff_iff]; simp_all [heavyO]; omega) | (refine congrArg (fun b => RS.s (AB b)) ?_; rw [Bool.eq_iff_iff]; simp [heavyO]; omega))
     ·skip
      refine AL.n ?_
      refine AL.ro (rd_faddr_bx rfl fo_132_9 rfl rfl ⟨_, _, rfl⟩) ?_
      refine AL.ro (rd_load_bx rfl ag_9 rfl rfl rfl) ?_
      refine AL.ro (rd_len_str rfl str_9 rfl) ?_
      refine AL.ro (rd_bin rfl rfl rfl (fun _ => rfl)) ?_
      refine AL.r (rd_pick_f rfl rfl rfl) ?_
      refine AL.rm ?_
      refine AL.fk (d := 33) rfl (fun h33 => ?_) (fun h33 => ?_)
      ·skip
       refine AL.n ?_
       refine AL.rf ?_
       refine AL.rf ?_
       refine AL.rf ?_
       refine AL.rf ?_
       refine AL.r (rd_pick_t rfl rfl rfl) ?_
       refine AL.ra ?_
       refine AL.nil ?_
       change AW _ _ _ _ _
       refine AW.ret ?_
       change ResA _ _ _ _ _
       refine res1 rfl (ResV.tmp rfl) rfl ?_
       (first | (simp_all [heavyO]; done) | (simp_all [heavyO]; omega) | (refine congrArg (fun b => RS.s (AB b)) ?_; rw [Bool.eq_iff_iff]; simp_all [heavyO]; omega) | (refine congrArg (fun b => RS.s (AB b)) ?_; rw [Bool.eq_iff_iff]; simp [heavyO]; omega))
      ·skip
       refine AL.n ?_
       refine AL.ro (rd_faddr_bx rfl fo_132_10 rfl rfl ⟨_, _, rfl⟩) ?_
       refine AL.ro (rd_load_bx rfl ag_70 rfl rfl rfl) ?_
       refine AL.ro (rd_len_sl rfl el_70 rfl) ?_
       refine AL.ro (rd_bin rfl rfl rfl (fun _ => rfl)) ?_
       refine AL.r (rd_pick_f rfl rfl rfl) ?_
       refine AL.ra ?_
       refine AL.nil ?_
       change AW _ _ _ _ _
       refine AW.ret ?_
       change ResA _ _ _ _ _
       refine res1 rfl (ResV.tmp rfl) rfl ?_
       (first | (simp_all [heavyO]; done) | (simp_all [heavyO]; omega) | (refine congrArg (fun b => RS.s (AB b)) ?_; rw [Bool.eq_iff_iff]; simp_all [heavyO]; omega) | (refine congrArg (fun b => RS.s (AB b)) ?_; rw [Bool.eq_iff_iff]; simp [heavyO]; omega))
theorem placed_c (o : OpD) : AC Try.prog 169 [o.av] (fun r => r = .s (AB (decide (o.kind = 3) || decide (o.kind = 4)))) := by
  refine AC.of' 10 1 Try.func169 rfl ?_
  change AW _ _ _ _ [TK.mk 0 .off]
  refine AW.seq ?_
  refine AW.region ?_
  refine AL.op rfl (AOpB.op (op_box 0 rfl rfl rfl rfl rfl ?_))
  refine AL.n ?_
  refine AL.ra ?_
  refine AL.nil ?_
  change AW _ _ _ _ _
  refine AW.seq ?_
  refine AW.region ?_
  refine AL.r (rd_faddr_bx rfl fo_132_4 rfl rfl ⟨_, _, rfl⟩) ?_
  refine AL.r (rd_load_bx rfl ag_3 rfl rfl rfl) ?_
  refine AL.r (rd_bin rfl rfl rfl (fun _ => rfl)) ?_
  refine AL.rm ?_
  refine AL.fk (d := 6) rfl (fun h6 => ?_) (fun h6 => ?_)
  ·skip
   refine AL.n ?_
   refine AL.rf ?_
   refine AL.rf ?_
   refine AL.rf ?_
   refine AL.r (rd_pick_t rfl rfl rfl) ?_
   refine AL.ra ?_
   refine AL.nil ?_
   change AW _ _ _ _ _
   refine AW.ret ?_
   change ResA _ _ _ _ _
   refine res1 rfl (ResV.tmp rfl) rfl ?_
   (first | (simp_all; done) | (refine congrArg (fun b => RS.s (AB b)) ?_; rw [Bool.eq_iff_iff]; simp; omega))
  ·skip
   refine AL.n ?_
   refine AL.ro (rd_faddr_bx rfl fo_132_4 rfl rfl ⟨_, _, rfl⟩) ?_
   refine AL.ro (rd_load_bx rfl ag_3 rfl rfl rfl) ?_
   refine AL.ro (rd_bin rfl rfl rfl (fun _ => rfl)) ?_
   refine AL.r (rd_pick_f rfl rfl rfl) ?_
   refine AL.ra ?_
   refine AL.nil ?_
   change AW _ _ _ _ _
   refine AW.ret ?_
   change ResA _ _ _ _ _
   refine res1 rfl (ResV.tmp rfl) rfl ?_
   (first | (simp_all; done) | (refine congrArg (fun b => RS.s (AB b)) ?_; rw [Bool.eq_iff_iff]; simp; omega))
theorem tequal_c (l m : List TagD) : AC Try.prog 180 [.sl (l.map TagD.cs), .sl (m.map TagD.cs)] (fun x => x = .s (AB (decide (l = m)))) := by
  refine AC.of' 24 0 Try.func180 rfl ?_
  change AW _ _ _ _ []
  refine AW.seq ?_
  refine AW.region ?_
  refine AL.ra ?_
  refine AL.nil ?_
  change AW _ _ _ _ _
  refine AW.seq ?_
  refine AW.seq ?_
  refine AW.region ?_
  refine AL.len (x := .tmp 0) rfl (fun hlen => ?_); rw [List.length_map] at hlen; unfold maxLen at hlen
  refine AL.rm ?_
  refine AL.r (rd_len_sl rfl el_70 rfl) ?_
  refine AL.rm ?_
  refine AL.r (rd_len_sl rfl el_70 rfl) ?_
  refine AL.r (rd_bin rfl rfl rfl (fun _ => rfl)) ?_
  refine AL.nil ?_
  change AW _ _ _ _ _
  refine AW.cd rfl (fun h10 => ?_) (fun h10 => ?_)
  ·skip
   refine AW.seq ?_
   refine AW.region ?_
   refine AL.ra ?_
   refine AL.nil ?_
   change AW _ _ _ _ _
   refine AW.ret ?_
   change ResA _ _ _ _ _
   refine res1 rfl (ResV.tmp rfl) rfl ?_
   rw [decide_eq_false (fun e => by subst e; simp at h10)]
  ·skip
   refine AW.skip ?_
   change AW _ _ _ _ _
   refine AW.seq ?_
   refine AW.seq ?_
   refine AW.region ?_
   refine AL.rm ?_
   refine AL.r (rd_len_sl rfl el_70 rfl) ?_
   refine AL.rm ?_
   refine AL.nil ?_
   change AW _ _ _ _ _
   refine AW.block ?_
   refine AW.loopM (ι := Nat) [4, 5, 14, 15, 16, 17, 18, 19, 20, 21, 22, 23, 24, 25] (fun k => [(13, AI (k : Int))]) [] (fun k => []) (fun k => k ≤ l.length ∧ l.take k = m.take k) (fun k => l.length - k) 0 (⟨by omega, rfl⟩) (by simp only [anys, upds, offs, List.set_cons_zero, List.set_cons_succ]; repeat (first | exact Wk.nil | refine Wk.same ?_ | refine Wk.any ?_)) (by simp only [anys, upds, offs, List.set_cons_zero, List.set_cons_succ]; repeat (first | exact Sk.nil _ | refine Sk.same _ ?_ | refine Sk.scr _ (by decide) ?_)) ?_
   rintro k gs hJ
   refine AW.norm (by simp only [anys, upds, offs, List.set_cons_zero, List.set_cons_succ]; rfl) (by (try simp only [anys, upds, offs, List.set_cons_zero, List.set_cons_succ]); (try rfl)) ?_
   obtain ⟨hk, hok⟩ := hJ
   refine AW.seq ?_
   refine AW.region ?_
   refine AL.r (rd_bin rfl rfl rfl (fun _ => rfl)) ?_
   refine AL.nil ?_
   change AW _ _ _ _ _
   refine AW.seq ?_
   refine AW.cd rfl (fun h14 => ?_) (fun h14 => ?_)
   ·skip
    refine AW.skip ?_
    change AW _ _ _ _ _
    refine AW.seq ?_
    refine AW.block ?_
    refine AW.seq ?_
    refine AW.region ?_
    refine AL.rm ?_
    refine AL.ra ?_
    refine AL.nil ?_
    change AW _ _ _ _ _
    refine AW.seq ?_
    refine AW.draw (by kernel_rfl) ?_
    refine AD.r 0 rfl (rd_move rfl rfl) rfl ?_
    refine AD.r 1 rfl (rd_move rfl rfl) rfl ?_
    refine AD.r 2 rfl (rd_iaddr_sl rfl el_70 rfl rfl rfl (get_mapA (by omega)) rfl) rfl ?_
    refine AD.r 3 rfl (rd_loadN_ep rfl ag_124 rfl (Nat.le_of_ble_eq_true rfl) rfl) rfl ?_
    refine AD.r 4 rfl (rd_move rfl rfl) rfl ?_
    refine AD.r 5 rfl (rd_move rfl rfl) rfl ?_
    refine AD.r 6 rfl (rd_iaddr_sl rfl el_70 rfl rfl rfl (get_mapA (by omega)) rfl) rfl ?_
    refine AD.r 7 rfl (rd_loadN_ep rfl ag_124 rfl (Nat.le_of_ble_eq_true rfl) rfl) rfl ?_
    refine AD.r 8 rfl (rd_ne_Tag rfl rfl rfl) rfl ?_
    refine AD.done (by kernel_rfl) ?_
    change AW _ _ _ _ _
    refine AW.cd rfl (fun h24 => ?_) (fun h24 => ?_)
    ·skip
     refine AW.seq ?_
     refine AW.region ?_
     refine AL.ra ?_
     refine AL.nil ?_
     change AW _ _ _ _ _
     refine AW.ret ?_
     change ResA _ _ _ _ _
     refine res1 rfl (ResV.tmp rfl) rfl ?_
     rw [decide_eq_false (fun e => by subst e; exact h24 rfl)]
    ·skip
     refine AW.skip ?_
     change AW _ _ _ _ _
     refine AW.region ?_
     refine AL.r (rd_arith_add rfl rfl rfl (by first | exact IntWalk.i64_in _ (by omega) | rfl)) ?_
     refine AL.rm ?_
     refine AL.nil ?_
     refine ⟨k + 1, ?_, by first | omega | (simp only []; omega), ?_, ?_⟩
     ·exact ⟨by omega, take_eq_next (by omega) (by omega) hok h24⟩
     ·simp only [anys, upds, offs, List.set_cons_zero, List.set_cons_succ]; repeat (first | exact Wk.nil | refine Wk.same ?_ | refine Wk.any ?_)
     ·simp only [anys, upds, offs, List.set_cons_zero, List.set_cons_succ]; repeat (first | exact Sk.nil _ | refine Sk.same _ ?_ | refine Sk.scr _ (by decide) ?_)
   ·skip
    refine AW.exit ?_
    change AW _ _ _ _ _
    refine AW.seq ?_
    refine AW.region ?_
    refine AL.ra ?_
    refine AL.nil ?_
    change AW _ _ _ _ _
    refine AW.ret ?_
    change ResA _ _ _ _ _
    refine res1 rfl (ResV.tmp rfl) rfl ?_
    rw [decide_eq_true (by rw [List.take_of_length_le (by omega), List.take_of_length_le (by omega)] at hok; exact hok)]
theorem rroot_c : AC Try.prog 40 [] (fun x => x = .o 47 7 (rootD.map FldD.cs)) := by
  refine AC.of' 29 12 Try.func40 rfl ?_
  change AW _ _ _ _ [TK.mk 0 .off, TK.mk 0 .off, TK.mk 0 .off, TK.mk 0 .off, TK.mk 0 .off, TK.mk 0 .off, TK.mk 0 .off, TK.mk 0 .off, TK.mk 0 .off, TK.mk 0 .off, TK.mk 0 .off, TK.mk 0 .off]
  refine AW.seq ?_
  refine AW.region ?_
  refine AL.ra ?_
  refine AL.nil ?_
  change AW _ _ _ _ _
  refine AW.seq ?_
  refine AW.region ?_
  refine AL.op rfl (AOpB.op (bs_own 0 rfl ap_42 ze_47 rfl rfl rfl ?_))
  refine AL.n ?_
  refine AL.ra ?_
  refine AL.nil ?_
  change AW _ _ _ _ _
  refine AW.seq ?_
  refine AW.region ?_
  refine AL.rm ?_
  refine AL.r (rd_build rfl pl_44 ze_44 rfl rfl) ?_
  refine AL.r (rd_build rfl pl_47 ze_47 rfl rfl) ?_
  refine AL.op rfl (AOpB.op (bs_set rfl ap_42 ze_47 rfl rfl ?_))
  refine AL.n ?_
  refine AL.op rfl (op_append rfl ap_42 rfl rfl (src_s rfl) (by first | omega | (simp; omega) | simp) (by first | omega | (simp; omega) | simp) ?_)
  refine AL.n ?_
  refine AL.ra ?_
  refine AL.nil ?_
  change AW _ _ _ _ _
  refine AW.seq ?_
  refine AW.region ?_
  refine AL.rm ?_
  refine AL.r (rd_build rfl pl_44 ze_44 rfl rfl) ?_
  refine AL.r (rd_build rfl pl_47 ze_47 rfl rfl) ?_
  refine AL.op rfl (AOpB.op (bs_set rfl ap_42 ze_47 rfl rfl ?_))
  refine AL.n ?_
  refine AL.op rfl (op_append rfl ap_42 rfl rfl (src_s rfl) (by first | omega | (simp; omega) | simp) (by first | omega | (simp; omega) | simp) ?_)
  refine AL.n ?_
  refine AL.ra ?_
  refine AL.nil ?_
  change AW _ _ _ _ _
  refine AW.seq ?_
  refine AW.region ?_
  refine AL.rm ?_
  refine AL.r (rd_build rfl pl_44 ze_44 rfl rfl) ?_
  refine AL.r (rd_build rfl pl_47 ze_47 rfl rfl) ?_
  refine AL.op rfl (AOpB.op (bs_set rfl ap_42 ze_47 rfl rfl ?_))
  refine AL.n ?_
  refine AL.op rfl (op_append rfl ap_42 rfl rfl (src_s rfl) (by first | omega | (simp; omega) | simp) (by first | omega | (simp; omega) | simp) ?_)
  refine AL.n ?_
  refine AL.ra ?_
  refine AL.nil ?_
  change AW _ _ _ _ _
  refine AW.seq ?_
  refine AW.region ?_
  refine AL.rm ?_
  refine AL.r (rd_build rfl pl_44 ze_44 rfl rfl) ?_
  refine AL.op rfl (AOpB.op (bs_set rfl ap_45 ze_9 rfl rfl ?_))
  refine AL.n ?_
  refine AL.r (rd_build rfl pl_47 ze_47 rfl rfl) ?_
  refine AL.op rfl (AOpB.op (bs_set rfl ap_42 ze_47 rfl rfl ?_))
  refine AL.n ?_
  refine AL.op rfl (op_append rfl ap_42 rfl rfl (src_s rfl) (by first | omega | (simp; omega) | simp) (by first | omega | (simp; omega) | simp) ?_)
  refine AL.n ?_
  refine AL.ra ?_
  refine AL.nil ?_
  change AW _ _ _ _ _
  refine AW.seq ?_
  refine AW.region ?_
  refine AL.rm ?_
  refine AL.r (rd_build rfl pl_44 ze_44 rfl rfl) ?_
  refine AL.r (rd_build rfl pl_47 ze_47 rfl rfl) ?_
  refine AL.op rfl (AOpB.op (bs_set rfl ap_42 ze_47 rfl rfl ?_))
  refine AL.n ?_
  refine AL.op rfl (op_append rfl ap_42 rfl rfl (src_s rfl) (by first | omega | (simp; omega) | simp) (by first | omega | (simp; omega) | simp) ?_)
  refine AL.n ?_
  refine AL.ra ?_
  refine AL.nil ?_
  change AW _ _ _ _ _
  refine AW.ret ?_
  change ResA _ _ _ _ _
  refine res1o rfl (ResV.tmp rfl) rfl ?_
  rfl
end Go.Proofs.Ytdgcbhihmnhnaaa
