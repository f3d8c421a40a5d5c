/- A part of a proof. -/
import Derived.ChangeSame
import Derived.Deep.Fields
import Derived.Deep.Slices
import Derived.Test.YtlapcfnmmpbeeaaGreatPO11
set_option linter.unusedSimpArgs false
set_option linter.unusedVariables false
namespace Go.Proofs.YtlapcfnmmpbeeaaGreat
open Go.RowKit Go.ChangeShapes Go.WideShapes Go.ChangeAt Go.Deep
def AnyB : Nat → Prop := fun _ => True
def RepC (w : World) (cs : List Value) (zs : List AV) : Prop := cs.length = zs.length ∧ (∀ u ∈ cs, u.oneCell' = true) ∧ ∀ (j : Nat) v x, cs[j]? = some v → zs[j]? = some x → RepS AnyB w v x
theorem RepC.one {w : World} {v : Value} {x : AV} (h1 : v.oneCell' = true) (h : RepS AnyB w v x) : RepC w [v] [x] := ⟨rfl, by simpa using h1, fun j u y hu hy => by
  cases j with
  | zero => simp at hu hy; subst hu hy; exact h
  | succ j => simp at hy⟩
theorem RepC.val {w : World} {v : Value} {x : AV} (h : RepC w [v] [x]) : RepS AnyB w v x := h.2.2 0 v x rfl rfl
theorem jKm {α : Type} (n : Nat) (p : Nat → α → Prop) (h : ∀ i, i < n → ∃ a, p i a) : ∃ l : List α, l.length = n ∧ ∀ i (hi : i < l.length), p i l[i] := by
  induction n with
  | zero => exact ⟨[], rfl, fun i hi => absurd hi (by simp)⟩
  | succ n ih =>
    obtain ⟨l, h1, h2⟩ := ih fun i hi => h i (by omega)
    obtain ⟨a, ha⟩ := h n (by omega)
    refine ⟨l ++ [a], by simp [h1], fun i hi => ?_⟩
    rcases Nat.lt_or_ge i l.length with h3 | h3
    · rw [List.getElem_append_left h3]; exact h2 i h3
    obtain rfl : i = l.length := by rw [List.length_append, List.length_singleton] at hi; omega
    rw [List.getElem_append_right (by omega)]
    simpa [h1] using ha
section
variable {H : Type} {enc : TypeId × Value → H} {P : Program} {W : World} {base : Nat} {sp : Nat → Bool} {held : Bool}
def OpT (enc : TypeId × Value → H) (P : Program) (W : World) (base : Nat) (sp : Nat → Bool) (held : Bool) (t : TypeId) {α : Type} (ok : α → Prop) (f : α → List AV) : Prop :=
  ∀ fuel cs x, DataW.trod enc P W base sp held fuel t cs = some x → ∃ d : α, ok d ∧ RepC W cs (f d)
theorem op_int {t : TypeId} {k : IntKind} (ht : P.underlying t = some (.int k)) : OpT enc P W base sp held t (fun n : Int => (Lit.int k n).wf = true) (fun n => [.sc (.int k n)]) := fun fuel cs x h => by
  obtain ⟨n, e, _, hw⟩ := DataW.trod_int ht h
  subst e
  exact ⟨n, hw, .one rfl (.sc _)⟩
theorem op_slice {t e : TypeId} {α : Type} {ok : α → Prop} {f : α → List AV} {sz : Nat} (ht : P.underlying t = some (.slice e)) (hc : P.cellsOf e = sz) (h0 : 0 < sz) (hf : ∀ d, (f d).length = sz) (he : OpT enc P W base sp held e ok f) : OpT enc P W base sp held t (fun l : List α => l.length ≤ maxLen ∧ ∀ d ∈ l, ok d) (fun l => [.sl (l.map f)]) := fun fuel cs x h => by
  rcases open_slice ht h with ⟨hcs, _⟩ | ⟨a, len, cap, m, n, D, Pl, hcs, hb, hl, hm, hmm, hx, hi⟩
  · subst hcs
    exact ⟨[], ⟨by unfold maxLen; simp, by simp⟩, .one rfl (.sl0 _ _ (by unfold maxLen; omega))⟩
  subst hcs
  have hlm : len ≤ m := by rw [hmm]; split <;> omega
  obtain ⟨l, hll, hp⟩ := jKm len (fun i d => ok d ∧ ∃ cs', W.cells? base (a.add (i * P.cellsOf e)) (P.cellsOf e) = some cs' ∧ RepC W cs' (f d)) fun i him => by
    obtain ⟨cs', h1, h2⟩ := hi i (by omega)
    obtain ⟨d, hd, hr⟩ := he n cs' _ h2
    exact ⟨d, hd, cs', h1, hr⟩
  refine ⟨l, ⟨by omega, fun d hd => ?_⟩, .one rfl ?_⟩
  · obtain ⟨i, hi', rfl⟩ := List.getElem_of_mem hd
    exact (hp i hi').1
  rcases Nat.eq_zero_or_pos len with hz | hz
  · subst hz
    have : l = [] := List.eq_nil_of_length_eq_zero hll
    subst this
    exact .sl0 _ _ (by omega)
  have key : ∀ i, i < len → ∃ cs', cs'.length = sz ∧ (∀ j v, cs'[j]? = some v → W.cell? (a.add (i * sz + j)) = some v) ∧ ∀ hi' : i < l.length, RepC W cs' (f l[i]) := fun i hil => by
    obtain ⟨_, cs', h1, h2⟩ := hp i (by omega)
    obtain ⟨_, hcl, hat⟩ := World.cells?_some h1
    rw [hc] at hcl hat
    refine ⟨cs', hcl, fun j v hv => ?_, fun _ => h2⟩
    have := hat j (by rw [← hcl]; exact (List.getElem?_eq_some_iff.1 hv).1)
    rw [Go.Deep.add_add] at this
    rw [this, hv]
  obtain ⟨CS, hC1, hC2⟩ := jKm len (fun i cs' => cs'.length = sz ∧ (∀ j v, cs'[j]? = some v → W.cell? (a.add (i * sz + j)) = some v) ∧ ∀ hi' : i < l.length, RepC W cs' (f l[i])) key
  obtain ⟨ab, ao, as_⟩ := a
  have hcell0 : W.cell? ((⟨ab, ao, as_⟩ : Addr).add (0 * sz + 0)) = some ((CS[0]'(by omega))[0]'(by have := (hC2 0 (by omega)).1; omega)) := (hC2 0 (by omega)).2.1 0 _ (List.getElem?_eq_getElem _)
  have hs : as_ = none := by simpa [Addr.add] using World.cell?_spot hcell0
  subst hs
  refine .sl1 ab ao len cap sz (fun i j => if h : i < CS.length then (if h2 : j < (CS[i]).length then (CS[i])[j] else .bool false) else .bool false) (l.map f) (by simp [hll]) hz hl hm h0 trivial (fun i cs hcs => ?_) (fun i j hi' hj => ?_) (fun i j => ?_) (fun i j cs y hcs hy => ?_)
  · rw [List.getElem?_map] at hcs
    cases hli : l[i]? with
    | none => rw [hli] at hcs; cases hcs
    | some d => rw [hli] at hcs; simp at hcs; subst hcs; exact hf d
  · have h1 := hC2 i (by omega)
    have hj' : j < (CS[i]'(by omega)).length := by rw [h1.1]; exact hj
    rw [dif_pos (by omega), dif_pos hj']
    have := h1.2.1 j _ (List.getElem?_eq_getElem hj')
    rw [Addr.add_mid] at this
    exact this
  · split
    · split
      · rename_i h1 h2
        have h3 := (hC2 i h1).2.2 (by omega)
        exact h3.2.1 _ (List.getElem_mem _)
      rfl
    rfl
  rw [List.getElem?_map] at hcs
  cases hli : l[i]? with
  | none => rw [hli] at hcs; cases hcs
  | some d =>
    rw [hli] at hcs
    simp at hcs
    subst hcs
    have hil := (List.getElem?_eq_some_iff.1 hli).1
    have hld := (List.getElem?_eq_some_iff.1 hli).2
    have h3 := (hC2 i (by omega)).2.2 hil
    rw [hld] at h3
    have hj' : j < (CS[i]'(by omega)).length := by rw [h3.1]; exact (List.getElem?_eq_some_iff.1 hy).1
    rw [dif_pos (by omega), dif_pos hj']
    exact h3.2.2 j _ y (List.getElem?_eq_getElem hj') hy
theorem OpT.cell {t : TypeId} {α : Type} {ok : α → Prop} {f : α → AV} {v : Value} {d : DataW H} {p : List MemPlace} (ho : OpT enc P W base sp held t ok (fun a => [f a])) (hv : v.cells = #[v]) (h : DataW.Trod enc P W base sp held t v d p) : ∃ a, ok a ∧ RepS AnyB W v (f a) := by
  obtain ⟨fuel, hf⟩ := h
  rw [hv] at hf
  obtain ⟨a, h1, h2⟩ := ho fuel _ _ hf
  exact ⟨a, h1, h2.val⟩
end
theorem AC.law {P : Program} {f : FuncId} {args : List AV} (h : AC P f args (fun r => r = .s (AB true))) {w : World} {vs : List Value} (hl : vs.length = args.length) (hr : ∀ (j : Nat) v x, vs[j]? = some v → args[j]? = some x → RepS AnyB w v x) : Calls P f vs.toArray w fun e w' => e = .returned (.bool true) ∧ Below w.heap.size w w' :=
  (h AnyB w vs.toArray (by simpa using hl) (fun _ _ => trivial) (fun j v x hv hx => hr j v x (by simpa using hv) hx)).mono fun e w' ⟨v, r, he, hv, hb, hR⟩ => by
    subst hR he
    refine ⟨?_, hb⟩
    cases hv
    rfl
theorem rep_nil {w : World} : ∀ (j : Nat) v x, ([] : List Value)[j]? = some v → ([] : List AV)[j]? = some x → RepS AnyB w v x := fun j v x h => by simp at h
theorem jKw {w : World} {v0 : Value} {x0 : AV} {vs : List Value} {xs : List AV} (h0 : RepS AnyB w v0 x0) (h : ∀ (j : Nat) v x, vs[j]? = some v → xs[j]? = some x → RepS AnyB w v x) : ∀ (j : Nat) v x, (v0 :: vs)[j]? = some v → (x0 :: xs)[j]? = some x → RepS AnyB w v x := fun j v x hv hx => by
  cases j with
  | zero => simp at hv hx; subst hv hx; exact h0
  | succ j => exact h j v x (by simpa using hv) (by simpa using hx)
set_option maxRecDepth 100000
open Go.RowKit
structure TagD where
  rep : Int
  n : Int
deriving DecidableEq
def TagD.cs (t : TagD) : List AV := [AI t.rep, AI t.n]
abbrev TagD.av (t : TagD) : AV := .ag t.cs
structure OpD where
  id : TagD
  schema : TagD
  time : Int
  cart : jAU
  kind : Int
  item : jAU
  at_ : RefD
  delta : Int
  has : Bool
  text : jAU
  drops : List TagD
deriving DecidableEq
def OpD.cs (o : OpD) : List AV := [AI o.id.rep, AI o.id.n, AI o.schema.rep, AI o.schema.n, AI o.time, AS o.cart, AI o.kind, AS o.item, AI o.at_.scope, AS o.at_.group, AS o.at_.name, AI o.delta, AB o.has, AS o.text, .sl (o.drops.map TagD.cs)]
abbrev OpD.av (o : OpD) : AV := .ag o.cs
def jD6 (a b : TagD) : Bool := if a.rep ≠ b.rep then decide (a.rep < b.rep) else decide (a.n < b.n)
def tagB (t : TagD) : Bool := decide (1 ≤ t.rep) && decide (t.rep ≤ 6) && decide (1 ≤ t.n) && decide (t.n ≤ 1099511627776)
theorem eq_Tag (x y : Operand) (a1 a2 b1 b2 : Int) (w : World) : (eqGuard .eql 34 x y (.agg #[.int .i64 a1, .int .i64 a2]) (.agg #[.int .i64 b1, .int .i64 b2]) >>= fun _ => binOp .eql 34 (.agg #[.int .i64 a1, .int .i64 a2]) (.agg #[.int .i64 b1, .int .i64 b2])).run Tryz.prog w = .ok (.bool (decide (TagD.mk a1 a2 = TagD.mk b1 b2))) w := by
  go_simp
  by_cases h1 : a1 = b1 <;> by_cases h2 : a2 = b2 <;> simp [h1, h2]
theorem ne_Tag (x y : Operand) (a1 a2 b1 b2 : Int) (w : World) : (eqGuard .neq 34 x y (.agg #[.int .i64 a1, .int .i64 a2]) (.agg #[.int .i64 b1, .int .i64 b2]) >>= fun _ => binOp .neq 34 (.agg #[.int .i64 a1, .int .i64 a2]) (.agg #[.int .i64 b1, .int .i64 b2])).run Tryz.prog w = .ok (.bool (!decide (TagD.mk a1 a2 = TagD.mk b1 b2))) w := by
  go_simp
  by_cases h1 : a1 = b1 <;> by_cases h2 : a2 = b2 <;> simp [h1, h2]
section
variable {o : Oper} {t : List AV} {st : List TK} {x y : Operand} {yt : TypeId} {a1 a2 b1 b2 : Int}
theorem jB9 (ho : o.op = .binOp .eql 34 x y yt) (hx : evV t x = some (.agg #[.int .i64 a1, .int .i64 a2])) (hy : evV t y = some (.agg #[.int .i64 b1, .int .i64 b2])) : ARd Tryz.prog o t st (AB (decide (TagD.mk a1 a2 = TagD.mk b1 b2))) := jC6 ho hx hy (eq_Tag x y a1 a2 b1 b2)
theorem jDS (ho : o.op = .binOp .neq 34 x y yt) (hx : evV t x = some (.agg #[.int .i64 a1, .int .i64 a2])) (hy : evV t y = some (.agg #[.int .i64 b1, .int .i64 b2])) : ARd Tryz.prog o t st (AB (!decide (TagD.mk a1 a2 = TagD.mk b1 b2))) := jC6 ho hx hy (ne_Tag x y a1 a2 b1 b2)
end
theorem jMd (a b : TagD) : AC Tryz.prog 72 [a.av, b.av] (fun r => r = .s (AB (jD6 a b))) := by
  refine AC.of' 18 2 Tryz.func72 rfl ?_; change AW _ _ _ _ [TK.mk 0 .off, TK.mk 0 .off]; refine AW.g (AL.oq (AOpB.op (oB 0 ?_))); refine AL.n ?_; refine AL.oq (AOpB.op (oB 1 ?_)); refine AL.n ?_; refine AL.ra ?_; refine AL.nil (AW.seq (AW.g ?_)); (iterate 2 (refine AL.r (qa jD9) ?_; refine AL.r (ql ag_3) ?_)); refine AL.r qb ?_; refine AL.nil (AW.cd rfl (fun h9 => ?_) (fun h9 => ?_))
  ·refine AW.g ?_; (iterate 2 (refine AL.r (qa jD9) ?_; refine AL.r (ql ag_3) ?_)); refine AL.r qb ?_; refine AL.ra ?_; refine AL.nil (AW.ret (r1t ?_)); simp_all [jD6]
  refine AW.skip (AW.g ?_); (iterate 2 (refine AL.r (qa jEH) ?_; refine AL.r (ql ag_3) ?_)); refine AL.r qb ?_; refine AL.ra ?_; refine AL.nil (AW.ret (r1t ?_)); simp_all [jD6]
theorem jKP (a b : TagD) : AC Tryz.prog 82 [a.av, b.av] (fun r => r = .s (AB (jD6 a b))) := by
  refine AC.of' 22 2 Tryz.func82 rfl ?_; change AW _ _ _ _ [TK.mk 0 .off, TK.mk 0 .off]; refine AW.g (AL.oq (AOpB.op (oB 0 ?_))); refine AL.n ?_; refine AL.oq (AOpB.op (oB 1 ?_)); refine AL.n ?_; refine AL.ra ?_; refine AL.nil (AW.g ?_); (iterate 2 (refine AL.r (qa jD9) ?_; refine AL.r (ql ag_3) ?_)); refine AL.r qb ?_; refine AL.rm ?_; refine AL.fk (d := 10) rfl (fun h10 => ?_) (fun h10 => ?_)
  ·refine AL.n ?_; (iterate 6 refine AL.rf ?_); (iterate 5 refine AL.ru ?_); refine AL.rf ?_; refine AL.r qt ?_; refine AL.ra ?_; refine AL.nil (AW.ret (r1t ?_))
   (first | (simp_all [jD6]; done) | (simp_all [jD6]; omega))
  refine AL.n ?_; (iterate 2 (refine AL.ro (qa jD9) ?_; refine AL.ro (ql ag_3) ?_)); refine AL.ro qb ?_; refine AL.ro (jAa rfl rfl) ?_; refine AL.fk (d := 16) rfl (fun h16 => ?_) (fun h16 => ?_)
  ·refine AL.n ?_; (iterate 2 (refine AL.ro (qa jEH) ?_; refine AL.ro (ql ag_3) ?_)); refine AL.ro qb ?_; refine AL.ro (jAm rfl rfl rfl) ?_; refine AL.r qf ?_; refine AL.ra ?_; refine AL.nil (AW.ret (r1t ?_))
   (first | (simp_all [jD6]; done) | (simp_all [jD6]; omega))
  refine AL.n ?_; (iterate 5 refine AL.rf ?_); refine AL.ro (jAs rfl rfl rfl) ?_; refine AL.r qf ?_; refine AL.ra ?_; refine AL.nil (AW.ret (r1t ?_))
  (first | (simp_all [jD6]; done) | (simp_all [jD6]; omega))
theorem jLF (a : TagD) : AC Tryz.prog 71 [a.av] (fun r => r = .s (AB (tagB a))) := by
  refine AC.of' 20 1 Tryz.func71 rfl ?_; change AW _ _ _ _ [TK.mk 0 .off]; refine AW.g (AL.oq (AOpB.op (oB 0 ?_))); refine AL.n ?_; refine AL.ra ?_; refine AL.nil (AW.g (AL.r (qa jD9) ?_)); refine AL.r (ql ag_3) ?_; refine AL.r qb ?_; refine AL.rm ?_; refine AL.fk (d := 6) rfl (fun h6 => ?_) (fun h6 => ?_)
  ·refine AL.n ?_; refine AL.ro (qa jD9) ?_; refine AL.ro (ql ag_3) ?_; refine AL.ro qb ?_; refine AL.r qt ?_; refine AL.rm ?_; refine AL.fk (d := 11) rfl (fun h11 => ?_) (fun h11 => ?_)
   ·refine AL.n ?_; refine AL.ro (qa jEH) ?_; refine AL.ro (ql ag_3) ?_; refine AL.ro qb ?_; refine AL.r qt ?_; refine AL.rm ?_; refine AL.fk (d := 16) rfl (fun h16 => ?_) (fun h16 => ?_)
    ·refine AL.n ?_; refine AL.ro (qa jEH) ?_; refine AL.ro (ql ag_3) ?_; refine AL.ro qb ?_; refine AL.r qt ?_; refine AL.ra ?_; refine AL.nil (AW.ret (r1t ?_))
     (first | (simp_all [tagB]; done) | (simp_all [tagB]; omega))
    refine AL.n ?_; (iterate 3 refine AL.rf ?_); refine AL.r qf ?_; refine AL.ra ?_; refine AL.nil (AW.ret (r1t ?_))
    (first | (simp_all [tagB]; done) | (simp_all [tagB]; omega))
   refine AL.n ?_; (iterate 3 refine AL.rf ?_); refine AL.r qf ?_; refine AL.rm ?_; (iterate 3 refine AL.rf ?_); refine AL.r qf ?_; refine AL.ra ?_; refine AL.nil (AW.ret (r1t ?_))
   (first | (simp_all [tagB]; done) | (simp_all [tagB]; omega))
  refine AL.n ?_; (iterate 2 ((iterate 3 refine AL.rf ?_); refine AL.r qf ?_; refine AL.rm ?_)); (iterate 3 refine AL.rf ?_); refine AL.r qf ?_; refine AL.ra ?_; refine AL.nil (AW.ret (r1t ?_))
  (first | (simp_all [tagB]; done) | (simp_all [tagB]; omega))
theorem jDH (o : OpD) : AC Tryz.prog 77 [o.av] (fun r => r = .s (AB (decide (o.kind = 3) || decide (o.kind = 4)))) := by
  refine AC.of' 10 1 Tryz.func77 rfl ?_; change AW _ _ _ _ [TK.mk 0 .off]; refine AW.g (AL.oq (AOpB.op (oB 0 ?_))); refine AL.n ?_; refine AL.ra ?_; refine AL.nil (AW.g (AL.r (qa jCy) ?_)); refine AL.r (ql ag_3) ?_; refine AL.r qb ?_; refine AL.rm ?_; refine AL.fk (d := 6) rfl (fun h6 => ?_) (fun h6 => ?_)
  ·refine AL.n ?_; (iterate 3 refine AL.rf ?_); refine AL.r qt ?_; refine AL.ra ?_; refine AL.nil (AW.ret (r1t ?_))
   (first | (simp_all; done) | (refine sb ?_; rw [Bool.eq_iff_iff]; simp; omega))
  refine AL.n ?_; refine AL.ro (qa jCy) ?_; refine AL.ro (ql ag_3) ?_; refine AL.ro qb ?_; refine AL.r qf ?_; refine AL.ra ?_; refine AL.nil (AW.ret (r1t ?_))
  (first | (simp_all; done) | (refine sb ?_; rw [Bool.eq_iff_iff]; simp; omega))
theorem jKt (l m : List TagD) : AC Tryz.prog 31 [.sl (l.map TagD.cs), .sl (m.map TagD.cs)] (fun x => x = .s (AB (decide (l = m)))) := by
  refine AC.of' 24 0 Tryz.func31 rfl ?_; change AW _ _ _ _ []; refine AW.g (AL.ra ?_); refine AL.nil (AW.seq (AW.g (AL.len (x := .tmp 0) rfl (fun hlen => ?_)))); rw [List.length_map] at hlen; unfold maxLen at hlen; refine AL.rm ?_; refine AL.r (lN jB5) ?_; refine AL.rm ?_; refine AL.r (lN jB5) ?_; refine AL.r qb ?_; refine AL.nil (AW.cd rfl (fun h10 => ?_) (fun h10 => ?_))
  ·refine AW.g (AL.ra ?_); refine AL.nil (AW.ret (r1t ?_)); rw [decide_eq_false (fun e => by subst e; simp at h10)]
  refine AW.skip (AW.seq (AW.g (AL.rm ?_))); refine AL.r (lN jB5) ?_; refine AL.rm ?_; refine AL.nil (AW.block (AW.loopM (ι := Nat) [4, 5, 14, 15, 16, 17, 18, 19, 20, 21, 22, 23, 24, 25] (fun k => [(13, AI (k : Int))]) [] (fun k => []) (fun k => k ≤ l.length ∧ l.take k = m.take k) (fun k => l.length - k) 0 (⟨by omega, rfl⟩) wk sk ?_)); rintro k gs hJ; refine AW.nm ?_; obtain ⟨hk, hok⟩ := hJ; refine AW.g (AL.r qb ?_); refine AL.nil (AW.seq (AW.cd rfl (fun h14 => ?_) (fun h14 => ?_)))
  ·refine AW.skip (AW.seq (AW.block (AW.g (AL.rm ?_)))); refine AL.ra ?_; refine AL.nil (AW.seq (AW.draw (by kernel_rfl) ?_)); refine AD.r 0 rfl (jAa rfl rfl) rfl ?_; refine AD.r 1 rfl (jAa rfl rfl) rfl ?_; refine AD.r 2 rfl (jAc rfl jB5 rfl rfl rfl (jAy (by omega)) rfl) rfl ?_; refine AD.r 3 rfl (jAv rfl jAN rfl (Nat.le_of_ble_eq_true rfl) rfl) rfl ?_; refine AD.r 4 rfl (jAa rfl rfl) rfl ?_; refine AD.r 5 rfl (jAa rfl rfl) rfl ?_; refine AD.r 6 rfl (jAc rfl jB5 rfl rfl rfl (jAy (by omega)) rfl) rfl ?_; refine AD.r 7 rfl (jAv rfl jAN rfl (Nat.le_of_ble_eq_true rfl) rfl) rfl ?_; refine AD.r 8 rfl (jDS rfl rfl rfl) rfl ?_; refine AD.done (by kernel_rfl) ?_; change AW _ _ _ _ _; refine AW.cd rfl (fun h24 => ?_) (fun h24 => ?_)
   ·refine AW.g (AL.ra ?_); refine AL.nil (AW.ret (r1t ?_)); rw [decide_eq_false (fun e => by subst e; exact h24 rfl)]
   refine AW.skip ?_; change AW _ _ _ _ _; refine AW.region ?_; refine AL.r qA ?_; refine AL.rm ?_; refine AL.nil ?_; refine ⟨k + 1, ?_, by first | omega | (simp only []; omega), ?_, ?_⟩
   ·exact ⟨by omega, jBN (by omega) (by omega) hok h24⟩
   ·exact wk
   exact sk
  refine AW.exit ?_; change AW _ _ _ _ _; refine AW.g (AL.ra ?_); refine AL.nil (AW.ret (r1t ?_)); rw [decide_eq_true (by rw [List.take_of_length_le (by omega), List.take_of_length_le (by omega)] at hok; exact hok)]
end Go.Proofs.YtlapcfnmmpbeeaaGreat
