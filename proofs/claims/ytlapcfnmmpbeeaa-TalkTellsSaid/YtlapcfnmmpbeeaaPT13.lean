/- A part of a proof. -/
import Derived.Test.YtlapcfnmmpbeeaaPT11
import Derived.Test.YtlapcfnmmpbeeaaPT12
set_option linter.unusedSimpArgs false
set_option linter.unusedVariables false
namespace Go.Proofs.Ytlapcfnmmpbeeaa
set_option maxRecDepth 100000
open Go.RowKit
structure TagD where
  rep : Int
  n : Int
deriving DecidableEq
def TagD.cs (t : TagD) : List AV := [AI t.rep, AI t.n]
abbrev TagD.av (t : TagD) : AV := .ag t.cs
structure OpD where
  id : TagD
  schema : TagD
  time : Int
  cart : Bytes
  kind : Int
  item : Bytes
  at_ : RefD
  delta : Int
  has : Bool
  text : Bytes
  drops : List TagD
deriving DecidableEq
def OpD.cs (o : OpD) : List AV := [AI o.id.rep, AI o.id.n, AI o.schema.rep, AI o.schema.n, AI o.time, AS o.cart, AI o.kind, AS o.item, AI o.at_.scope, AS o.at_.group, AS o.at_.name, AI o.delta, AB o.has, AS o.text, .sl (o.drops.map TagD.cs)]
abbrev OpD.av (o : OpD) : AV := .ag o.cs
def lessT (a b : TagD) : Bool := if a.rep ≠ b.rep then decide (a.rep < b.rep) else decide (a.n < b.n)
def tagB (t : TagD) : Bool := decide (1 ≤ t.rep) && decide (t.rep ≤ 6) && decide (1 ≤ t.n) && decide (t.n ≤ 1099511627776)
theorem eq_Tag (x y : Operand) (a1 a2 b1 b2 : Int) (w : World) : (eqGuard .eql 51 x y (.agg #[.int .i64 a1, .int .i64 a2]) (.agg #[.int .i64 b1, .int .i64 b2]) >>= fun _ => binOp .eql 51 (.agg #[.int .i64 a1, .int .i64 a2]) (.agg #[.int .i64 b1, .int .i64 b2])).run Try.prog w = .ok (.bool (decide (TagD.mk a1 a2 = TagD.mk b1 b2))) w := by
  go_simp
  by_cases h1 : a1 = b1 <;> by_cases h2 : a2 = b2 <;> simp [h1, h2]
theorem ne_Tag (x y : Operand) (a1 a2 b1 b2 : Int) (w : World) : (eqGuard .neq 51 x y (.agg #[.int .i64 a1, .int .i64 a2]) (.agg #[.int .i64 b1, .int .i64 b2]) >>= fun _ => binOp .neq 51 (.agg #[.int .i64 a1, .int .i64 a2]) (.agg #[.int .i64 b1, .int .i64 b2])).run Try.prog w = .ok (.bool (!decide (TagD.mk a1 a2 = TagD.mk b1 b2))) w := by
  go_simp
  by_cases h1 : a1 = b1 <;> by_cases h2 : a2 = b2 <;> simp [h1, h2]
section
variable {o : Oper} {t : List AV} {st : List TK} {x y : Operand} {yt : TypeId} {a1 a2 b1 b2 : Int}
theorem rd_eq_Tag (ho : o.op = .binOp .eql 51 x y yt) (hx : evV t x = some (.agg #[.int .i64 a1, .int .i64 a2])) (hy : evV t y = some (.agg #[.int .i64 b1, .int .i64 b2])) : ARd Try.prog o t st (AB (decide (TagD.mk a1 a2 = TagD.mk b1 b2))) := rd_bin ho hx hy (eq_Tag x y a1 a2 b1 b2)
theorem rd_ne_Tag (ho : o.op = .binOp .neq 51 x y yt) (hx : evV t x = some (.agg #[.int .i64 a1, .int .i64 a2])) (hy : evV t y = some (.agg #[.int .i64 b1, .int .i64 b2])) : ARd Try.prog o t st (AB (!decide (TagD.mk a1 a2 = TagD.mk b1 b2))) := rd_bin ho hx hy (ne_Tag x y a1 a2 b1 b2)
end
theorem tless_c (a b : TagD) : AC Try.prog 64 [a.av, b.av] (fun r => r = .s (AB (lessT a b))) := by
  refine AC.of' 18 2 Try.func64 rfl ?_; change AW _ _ _ _ [TK.mk 0 .off, TK.mk 0 .off]; refine AW.g (AL.oq (AOpB.op (oB 0 ?_))); refine AL.n ?_; refine AL.oq (AOpB.op (oB 1 ?_)); refine AL.n ?_; refine AL.ra ?_; refine AL.nil (AW.seq (AW.g ?_)); (iterate 2 (refine AL.r (qa fo_51_0) ?_; refine AL.r (ql ag_3) ?_)); refine AL.r qb ?_; refine AL.nil (AW.cd rfl (fun h9 => ?_) (fun h9 => ?_))
  ·refine AW.g ?_; (iterate 2 (refine AL.r (qa fo_51_0) ?_; refine AL.r (ql ag_3) ?_)); refine AL.r qb ?_; refine AL.ra ?_; refine AL.nil (AW.ret (r1t ?_)); simp_all [lessT]
  refine AW.skip (AW.g ?_); (iterate 2 (refine AL.r (qa fo_51_1) ?_; refine AL.r (ql ag_3) ?_)); refine AL.r qb ?_; refine AL.ra ?_; refine AL.nil (AW.ret (r1t ?_)); simp_all [lessT]
theorem tag_c (a : TagD) : AC Try.prog 63 [a.av] (fun r => r = .s (AB (tagB a))) := by
  refine AC.of' 20 1 Try.func63 rfl ?_; change AW _ _ _ _ [TK.mk 0 .off]; refine AW.g (AL.oq (AOpB.op (oB 0 ?_))); refine AL.n ?_; refine AL.ra ?_; refine AL.nil (AW.g (AL.r (qa fo_51_0) ?_)); refine AL.r (ql ag_3) ?_; refine AL.r qb ?_; refine AL.rm ?_; refine AL.fk (d := 6) rfl (fun h6 => ?_) (fun h6 => ?_)
  ·refine AL.n ?_; refine AL.ro (qa fo_51_0) ?_; refine AL.ro (ql ag_3) ?_; refine AL.ro qb ?_; refine AL.r qt ?_; refine AL.rm ?_; refine AL.fk (d := 11) rfl (fun h11 => ?_) (fun h11 => ?_)
   ·refine AL.n ?_; refine AL.ro (qa fo_51_1) ?_; refine AL.ro (ql ag_3) ?_; refine AL.ro qb ?_; refine AL.r qt ?_; refine AL.rm ?_; refine AL.fk (d := 16) rfl (fun h16 => ?_) (fun h16 => ?_)
    ·refine AL.n ?_; refine AL.ro (qa fo_51_1) ?_; refine AL.ro (ql ag_3) ?_; refine AL.ro qb ?_; refine AL.r qt ?_; refine AL.ra ?_; refine AL.nil (AW.ret (r1t ?_))
     (first | (simp_all [tagB]; done) | (simp_all [tagB]; omega))
    refine AL.n ?_; (iterate 3 refine AL.rf ?_); refine AL.r qf ?_; refine AL.ra ?_; refine AL.nil (AW.ret (r1t ?_))
    (first | (simp_all [tagB]; done) | (simp_all [tagB]; omega))
   refine AL.n ?_; (iterate 3 refine AL.rf ?_); refine AL.r qf ?_; refine AL.rm ?_; (iterate 3 refine AL.rf ?_); refine AL.r qf ?_; refine AL.ra ?_; refine AL.nil (AW.ret (r1t ?_))
   (first | (simp_all [tagB]; done) | (simp_all [tagB]; omega))
  refine AL.n ?_; (iterate 2 ((iterate 3 refine AL.rf ?_); refine AL.r qf ?_; refine AL.rm ?_)); (iterate 3 refine AL.rf ?_); refine AL.r qf ?_; refine AL.ra ?_; refine AL.nil (AW.ret (r1t ?_))
  (first | (simp_all [tagB]; done) | (simp_all [tagB]; omega))
def heavyO (o : OpD) : Bool := decide (200 < o.cart.length) || decide (200 < o.item.length) || decide (200 < o.at_.group.length) || decide (200 < o.at_.name.length) || decide (200 < o.text.length) || decide (200 < o.drops.length)
theorem nl1 {a b : Bool} (h : a = b := by rw [Bool.eq_iff_iff]; simp_all [heavyO]; omega) : RS.s (AB a) = RS.s (AB b) := sb h
theorem nl2 {a b : Bool} (h : a = b := by rw [Bool.eq_iff_iff]; simp [heavyO]; omega) : RS.s (AB a) = RS.s (AB b) := sb h
theorem oheavy_c (o : OpD) : AC Try.prog 35 [o.av] (fun r => r = .s (AB (heavyO o))) := by
  refine AC.of' 38 1 Try.func35 rfl ?_; change AW _ _ _ _ [TK.mk 0 .off]; refine AW.g (AL.oq (AOpB.op (oB 0 ?_))); refine AL.n ?_; refine AL.ra ?_; refine AL.nil (AW.g (AL.r (qa fo_67_3) ?_)); refine AL.r (ql ag_9) ?_; refine AL.r (rd_len_str rfl str_9 rfl) ?_; refine AL.r qb ?_; refine AL.rm ?_; refine AL.fk (d := 7) rfl (fun h7 => ?_) (fun h7 => ?_)
  ·refine AL.n ?_; (iterate 4 refine AL.rf ?_); (iterate 2 (refine AL.r qt ?_; refine AL.rm ?_; (iterate 5 refine AL.rf ?_))); (iterate 2 (refine AL.r qt ?_; refine AL.rm ?_; (iterate 4 refine AL.rf ?_))); refine AL.r qt ?_; refine AL.ra ?_; refine AL.nil (AW.ret (r1t ?_))
   (first | (simp_all [heavyO]; done) | (simp_all [heavyO]; omega) | exact nl1 | exact nl2)
  refine AL.n ?_; refine AL.ro (qa fo_67_5) ?_; refine AL.ro (ql ag_9) ?_; refine AL.ro (rd_len_str rfl str_9 rfl) ?_; refine AL.ro qb ?_; refine AL.r qf ?_; refine AL.rm ?_; refine AL.fk (d := 13) rfl (fun h13 => ?_) (fun h13 => ?_)
  ·refine AL.n ?_; (iterate 2 ((iterate 5 refine AL.rf ?_); refine AL.r qt ?_; refine AL.rm ?_)); (iterate 4 refine AL.rf ?_); refine AL.r qt ?_; refine AL.rm ?_; (iterate 4 refine AL.rf ?_); refine AL.r qt ?_; refine AL.ra ?_; refine AL.nil (AW.ret (r1t ?_))
   (first | (simp_all [heavyO]; done) | (simp_all [heavyO]; omega) | exact nl1 | exact nl2)
  refine AL.n ?_; refine AL.ro (qa fo_67_6) ?_; refine AL.ro (qa fo_55_1) ?_; refine AL.ro (ql ag_9) ?_; refine AL.ro (rd_len_str rfl str_9 rfl) ?_; refine AL.ro qb ?_; refine AL.r qf ?_; refine AL.rm ?_; refine AL.fk (d := 20) rfl (fun h20 => ?_) (fun h20 => ?_)
  ·refine AL.n ?_; (iterate 5 refine AL.rf ?_); (iterate 2 (refine AL.r qt ?_; refine AL.rm ?_; (iterate 4 refine AL.rf ?_))); refine AL.r qt ?_; refine AL.ra ?_; refine AL.nil (AW.ret (r1t ?_))
   (first | (simp_all [heavyO]; done) | (simp_all [heavyO]; omega) | exact nl1 | exact nl2)
  refine AL.n ?_; refine AL.ro (qa fo_67_6) ?_; refine AL.ro (qa fo_55_2) ?_; refine AL.ro (ql ag_9) ?_; refine AL.ro (rd_len_str rfl str_9 rfl) ?_; refine AL.ro qb ?_; refine AL.r qf ?_; refine AL.rm ?_; refine AL.fk (d := 27) rfl (fun h27 => ?_) (fun h27 => ?_)
  ·refine AL.n ?_; (iterate 4 refine AL.rf ?_); refine AL.r qt ?_; refine AL.rm ?_; (iterate 4 refine AL.rf ?_); refine AL.r qt ?_; refine AL.ra ?_; refine AL.nil (AW.ret (r1t ?_))
   (first | (simp_all [heavyO]; done) | (simp_all [heavyO]; omega) | exact nl1 | exact nl2)
  refine AL.n ?_; refine AL.ro (qa fo_67_9) ?_; refine AL.ro (ql ag_9) ?_; refine AL.ro (rd_len_str rfl str_9 rfl) ?_; refine AL.ro qb ?_; refine AL.r qf ?_; refine AL.rm ?_; refine AL.fk (d := 33) rfl (fun h33 => ?_) (fun h33 => ?_)
  ·refine AL.n ?_; (iterate 4 refine AL.rf ?_); refine AL.r qt ?_; refine AL.ra ?_; refine AL.nil (AW.ret (r1t ?_))
   (first | (simp_all [heavyO]; done) | (simp_all [heavyO]; omega) | exact nl1 | exact nl2)
  refine AL.n ?_; refine AL.ro (qa fo_67_10) ?_; refine AL.ro (ql ag_24) ?_; refine AL.ro (lN el_24) ?_; refine AL.ro qb ?_; refine AL.r qf ?_; refine AL.ra ?_; refine AL.nil (AW.ret (r1t ?_))
  (first | (simp_all [heavyO]; done) | (simp_all [heavyO]; omega) | exact nl1 | exact nl2)
theorem placed_c (o : OpD) : AC Try.prog 70 [o.av] (fun r => r = .s (AB (decide (o.kind = 3) || decide (o.kind = 4)))) := by
  refine AC.of' 10 1 Try.func70 rfl ?_; change AW _ _ _ _ [TK.mk 0 .off]; refine AW.g (AL.oq (AOpB.op (oB 0 ?_))); refine AL.n ?_; refine AL.ra ?_; refine AL.nil (AW.g (AL.r (qa fo_67_4) ?_)); refine AL.r (ql ag_3) ?_; refine AL.r qb ?_; refine AL.rm ?_; refine AL.fk (d := 6) rfl (fun h6 => ?_) (fun h6 => ?_)
  ·refine AL.n ?_; (iterate 3 refine AL.rf ?_); refine AL.r qt ?_; refine AL.ra ?_; refine AL.nil (AW.ret (r1t ?_))
   (first | (simp_all; done) | (refine sb ?_; rw [Bool.eq_iff_iff]; simp; omega))
  refine AL.n ?_; refine AL.ro (qa fo_67_4) ?_; refine AL.ro (ql ag_3) ?_; refine AL.ro qb ?_; refine AL.r qf ?_; refine AL.ra ?_; refine AL.nil (AW.ret (r1t ?_))
  (first | (simp_all; done) | (refine sb ?_; rw [Bool.eq_iff_iff]; simp; omega))
theorem tequal_c (l m : List TagD) : AC Try.prog 87 [.sl (l.map TagD.cs), .sl (m.map TagD.cs)] (fun x => x = .s (AB (decide (l = m)))) := by
  refine AC.of' 24 0 Try.func87 rfl ?_; change AW _ _ _ _ []; refine AW.g (AL.ra ?_); refine AL.nil (AW.seq (AW.g (AL.len (x := .tmp 0) rfl (fun hlen => ?_)))); rw [List.length_map] at hlen; unfold maxLen at hlen; refine AL.rm ?_; refine AL.r (lN el_24) ?_; refine AL.rm ?_; refine AL.r (lN el_24) ?_; refine AL.r qb ?_; refine AL.nil (AW.cd rfl (fun h10 => ?_) (fun h10 => ?_))
  ·refine AW.g (AL.ra ?_); refine AL.nil (AW.ret (r1t ?_)); rw [decide_eq_false (fun e => by subst e; simp at h10)]
  refine AW.skip (AW.seq (AW.g (AL.rm ?_))); refine AL.r (lN el_24) ?_; refine AL.rm ?_; refine AL.nil (AW.block (AW.loopM (ι := Nat) [4, 5, 14, 15, 16, 17, 18, 19, 20, 21, 22, 23, 24, 25] (fun k => [(13, AI (k : Int))]) [] (fun k => []) (fun k => k ≤ l.length ∧ l.take k = m.take k) (fun k => l.length - k) 0 (⟨by omega, rfl⟩) wk sk ?_)); rintro k gs hJ; refine AW.nm ?_; obtain ⟨hk, hok⟩ := hJ; refine AW.g (AL.r qb ?_); refine AL.nil (AW.seq (AW.cd rfl (fun h14 => ?_) (fun h14 => ?_)))
  ·refine AW.skip (AW.seq (AW.block (AW.g (AL.rm ?_)))); refine AL.ra ?_; refine AL.nil (AW.seq (AW.draw (by kernel_rfl) ?_)); refine AD.r 0 rfl (rd_move rfl rfl) rfl ?_; refine AD.r 1 rfl (rd_move rfl rfl) rfl ?_; refine AD.r 2 rfl (rd_iaddr_sl rfl el_24 rfl rfl rfl (get_mapA (by omega)) rfl) rfl ?_; refine AD.r 3 rfl (rd_loadN_ep rfl ag_51 rfl (Nat.le_of_ble_eq_true rfl) rfl) rfl ?_; refine AD.r 4 rfl (rd_move rfl rfl) rfl ?_; refine AD.r 5 rfl (rd_move rfl rfl) rfl ?_; refine AD.r 6 rfl (rd_iaddr_sl rfl el_24 rfl rfl rfl (get_mapA (by omega)) rfl) rfl ?_; refine AD.r 7 rfl (rd_loadN_ep rfl ag_51 rfl (Nat.le_of_ble_eq_true rfl) rfl) rfl ?_; refine AD.r 8 rfl (rd_ne_Tag rfl rfl rfl) rfl ?_; refine AD.done (by kernel_rfl) ?_; change AW _ _ _ _ _; refine AW.cd rfl (fun h24 => ?_) (fun h24 => ?_)
   ·refine AW.g (AL.ra ?_); refine AL.nil (AW.ret (r1t ?_)); rw [decide_eq_false (fun e => by subst e; exact h24 rfl)]
   refine AW.skip ?_; change AW _ _ _ _ _; refine AW.region ?_; refine AL.r qA ?_; refine AL.rm ?_; refine AL.nil ?_; refine ⟨k + 1, ?_, by first | omega | (simp only []; omega), ?_, ?_⟩
   ·exact ⟨by omega, take_eq_next (by omega) (by omega) hok h24⟩
   ·exact wk
   exact sk
  refine AW.exit ?_; change AW _ _ _ _ _; refine AW.g (AL.ra ?_); refine AL.nil (AW.ret (r1t ?_)); rw [decide_eq_true (by rw [List.take_of_length_le (by omega), List.take_of_length_le (by omega)] at hok; exact hok)]
end Go.Proofs.Ytlapcfnmmpbeeaa
