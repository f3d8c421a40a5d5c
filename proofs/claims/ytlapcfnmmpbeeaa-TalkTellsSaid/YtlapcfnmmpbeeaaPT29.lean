/- A part of a proof. -/
import Derived.Test.YtlapcfnmmpbeeaaPT14
set_option linter.unusedSimpArgs false
set_option linter.unusedVariables false
namespace Go.Proofs.Ytlapcfnmmpbeeaa
set_option maxRecDepth 100000
open Go.RowKit
def zeroO : OpD := ⟨⟨0, 0⟩, ⟨0, 0⟩, 0, [], 0, [], ⟨0, [], []⟩, 0, false, [], []⟩
def partsO (o : OpD) : OpD × Bool :=
  if o.kind = 1 then (⟨o.id, o.schema, o.time, o.cart, o.kind, o.item, ⟨0, [], []⟩, 0, false, [], []⟩, true)
  else if o.kind = 2 then (⟨o.id, o.schema, o.time, o.cart, o.kind, o.item, ⟨0, [], []⟩, 0, false, [], o.drops⟩, true)
  else if o.kind = 3 then (⟨o.id, o.schema, o.time, o.cart, o.kind, if o.at_.scope = 1 then o.item else [], o.at_, o.delta, false, [], []⟩, true)
  else if o.kind = 4 then (⟨o.id, o.schema, o.time, o.cart, o.kind, if o.at_.scope = 1 then o.item else [], o.at_, 0, o.has, if o.has then o.text else [], o.drops⟩, true)
  else if o.kind = 5 then (⟨o.id, o.schema, o.time, o.cart, o.kind, [], ⟨0, [], []⟩, 0, false, [], o.drops⟩, true)
  else (zeroO, false)
set_option maxHeartbeats 4000000 in
theorem parts_c (o : OpD) : AC Try.prog 67 [o.av] (fun r => r = .s (.tu [(partsO o).1.av, AB (partsO o).2])) := by
  change AC _ _ [.ag [AI o.id.rep, AI o.id.n, AI o.schema.rep, AI o.schema.n, AI o.time, AS o.cart, AI o.kind, AS o.item, AI o.at_.scope, AS o.at_.group, AS o.at_.name, AI o.delta, AB o.has, AS o.text, .sl (o.drops.map TagD.cs)]] _; refine AC.of' 72 3 Try.func67 rfl ?_; change AW _ _ _ _ [TK.mk 0 .off, TK.mk 0 .off, TK.mk 0 .off]; refine AW.g (AL.oq (AOpB.op (oB 0 ?_))); refine AL.n ?_; refine AL.oq (AOpB.op (oA 1 ze_67 ?_)); refine AL.n ?_; refine AL.ra ?_; refine AL.nil (AW.g (AL.r (qa fo_67_0) ?_)); refine AL.r (qN ag_51) ?_; refine AL.r (qa fo_67_1) ?_; refine AL.r (qN ag_51) ?_; refine AL.r (qa fo_67_2) ?_; refine AL.r (ql ag_2) ?_; refine AL.r (qa fo_67_3) ?_; refine AL.r (ql ag_9) ?_; refine AL.r (qa fo_67_4) ?_; refine AL.r (ql ag_3) ?_; refine AL.r (qB pl_67 ze_67) ?_; refine AL.oq (AOpB.op (oA 2 ze_67 ?_)); refine AL.n ?_; refine AL.oq (oS sz_67 ?_); refine AL.b ?_; refine AL.nil (AW.seq (AW.g (AL.b ?_))); refine AL.r (qa fo_67_4) ?_; refine AL.r (ql ag_3) ?_; refine AL.nil (AW.block (AW.g (AL.r qb ?_)))
  refine AL.ra ?_; refine AL.nil (AW.cd rfl (fun h19 => ?_) (fun h19 => ?_))
  ·refine AW.region (AL.r (qa fo_67_5) ?_); refine AL.r (ql ag_9) ?_; refine AL.r (qa fo_67_5) ?_; refine AL.oq (oS sz_9 ?_); refine AL.b ?_; refine AL.nil (AW.seq (AW.g (AL.r (qN ag_67) ?_))); refine AL.cl (placed_c o) ?_; refine AL.n ?_; refine AL.rm ?_; refine AL.fk (d := 63) rfl (fun h63 => ?_) (fun h63 => ?_)
   ·refine AL.n ?_; refine AL.ro (qa fo_67_6) ?_; refine AL.ro (qa fo_55_0) ?_; refine AL.ro (ql ag_3) ?_; refine AL.ro qb ?_; refine AL.r qt ?_; refine AL.nil (AW.cd rfl (fun h68 => ?_) (fun h68 => ?_))
    ·refine AW.region (AL.r (qa fo_67_5) ?_); refine AL.r (ql ag_9) ?_; refine AL.r (qa fo_67_5) ?_; refine AL.oq (oS sz_9 ?_); refine AL.b ?_; refine AL.nil (AW.g (AL.r (qN ag_67) ?_)); refine AL.oq (oS sz_67 ?_); refine AL.b ?_; refine AL.ra ?_; refine AL.nil (AW.ret ?_); refine r2 ag_67 ?_; simp_all [partsO, zeroO, OpD.cs]
    refine AW.skip (AW.g (AL.r (qN ag_67) ?_)); refine AL.oq (oS sz_67 ?_); refine AL.b ?_; refine AL.ra ?_; refine AL.nil (AW.ret ?_); refine r2 ag_67 ?_; simp_all [partsO, zeroO, OpD.cs]
   refine AL.n ?_; (iterate 4 refine AL.rf ?_); refine AL.r qf ?_; refine AL.nil (AW.cond_f rfl (AW.skip (AW.g (AL.r (qN ag_67) ?_)))); refine AL.oq (oS sz_67 ?_); refine AL.b ?_; refine AL.ra ?_; refine AL.nil (AW.ret ?_); refine r2 ag_67 ?_; simp_all [partsO, zeroO, OpD.cs]
  refine AW.g (AL.r qb ?_); refine AL.ra ?_; refine AL.nil (AW.cd rfl (fun h24 => ?_) (fun h24 => ?_))
  ·refine AW.drawX 2 (by kernel_rfl) ?_; refine ADX.r 0 rfl (xa fo_67_5) rfl ?_; refine ADX.r 1 rfl (xl ag_9) rfl ?_; refine ADX.r 2 rfl (xa fo_67_10) rfl ?_; refine ADX.r 3 rfl (xl ag_24) rfl ?_; refine ADX.r 4 rfl (xa fo_67_5) rfl ?_; refine ADX.stor 5 rfl (by kernel_rfl) rfl rfl rfl rfl rfl rfl sz_9 ?_; refine ADX.n ?_; refine ADX.r 6 rfl (xa fo_67_10) rfl ?_; refine ADX.stor 7 rfl (by kernel_rfl) rfl rfl rfl rfl rfl rfl sz_24 ?_; refine ADX.n ?_; refine ADX.done (by kernel_rfl) ?_; change AW _ _ _ _ _; refine AW.seq (AW.g (AL.r (qN ag_67) ?_)); refine AL.oq (AOpB.op (op_call (placed_c o) rfl (by kernel_rfl) rfl (none) ?_)); rintro r rfl; refine AL.n ?_; refine AL.rm ?_; refine AL.fk (d := 63) rfl (fun h63 => ?_) (fun h63 => ?_)
   ·refine AL.n ?_; refine AL.ro (qa fo_67_6) ?_; refine AL.ro (qa fo_55_0) ?_; refine AL.ro (ql ag_3) ?_; refine AL.ro qb ?_; refine AL.r qt ?_; refine AL.nil (AW.cd rfl (fun h68 => ?_) (fun h68 => ?_))
    ·refine AW.region (AL.r (qa fo_67_5) ?_); refine AL.r (ql ag_9) ?_; refine AL.r (qa fo_67_5) ?_; refine AL.oq (oS sz_9 ?_); refine AL.b ?_; refine AL.nil (AW.g (AL.r (qN ag_67) ?_)); refine AL.oq (oS sz_67 ?_); refine AL.b ?_; refine AL.ra ?_; refine AL.nil (AW.ret ?_); refine r2 ag_67 ?_; simp_all [partsO, zeroO, OpD.cs]
    refine AW.skip (AW.g (AL.r (qN ag_67) ?_)); refine AL.oq (oS sz_67 ?_); refine AL.b ?_; refine AL.ra ?_; refine AL.nil (AW.ret ?_); refine r2 ag_67 ?_; simp_all [partsO, zeroO, OpD.cs]
   refine AL.n ?_; (iterate 4 refine AL.rf ?_); refine AL.r qf ?_; refine AL.nil (AW.cond_f rfl (AW.skip (AW.g (AL.r (qN ag_67) ?_)))); refine AL.oq (oS sz_67 ?_); refine AL.b ?_; refine AL.ra ?_; refine AL.nil (AW.ret ?_); refine r2 ag_67 ?_; simp_all [partsO, zeroO, OpD.cs]
  refine AW.g (AL.r qb ?_); refine AL.ra ?_; refine AL.nil (AW.cd rfl (fun h32 => ?_) (fun h32 => ?_))
  ·refine AW.drawX 2 (by kernel_rfl) ?_; refine ADX.r 0 rfl (xa fo_67_6) rfl ?_; refine ADX.r 1 rfl (xN ag_55) rfl ?_; refine ADX.r 2 rfl (xa fo_67_7) rfl ?_; refine ADX.r 3 rfl (xl ag_2) rfl ?_; refine ADX.r 4 rfl (xa fo_67_6) rfl ?_; refine ADX.stor 5 rfl (by kernel_rfl) rfl rfl rfl rfl rfl rfl sz_55 ?_; refine ADX.n ?_; refine ADX.r 6 rfl (xa fo_67_7) rfl ?_; refine ADX.stor 7 rfl (by kernel_rfl) rfl rfl rfl rfl rfl rfl sz_2 ?_; refine ADX.n ?_; refine ADX.done (by kernel_rfl) ?_; change AW _ _ _ _ _; refine AW.seq (AW.g (AL.r (qN ag_67) ?_)); refine AL.oq (AOpB.op (op_call (placed_c o) rfl (by kernel_rfl) rfl (none) ?_)); rintro r rfl; refine AL.n ?_; refine AL.rm ?_; refine AL.fk (d := 63) rfl (fun h63 => ?_) (fun h63 => ?_)
   ·refine AL.n ?_; refine AL.ro (qa fo_67_6) ?_; refine AL.ro (qa fo_55_0) ?_; refine AL.ro (ql ag_3) ?_; refine AL.ro qb ?_; refine AL.r qt ?_; refine AL.nil (AW.cd rfl (fun h68 => ?_) (fun h68 => ?_))
    ·refine AW.region (AL.r (qa fo_67_5) ?_); refine AL.r (ql ag_9) ?_; refine AL.r (qa fo_67_5) ?_; refine AL.oq (oS sz_9 ?_); refine AL.b ?_; refine AL.nil (AW.g (AL.r (qN ag_67) ?_)); refine AL.oq (oS sz_67 ?_); refine AL.b ?_; refine AL.ra ?_; refine AL.nil (AW.ret ?_); refine r2 ag_67 ?_; simp_all [partsO, zeroO, OpD.cs]
    refine AW.skip (AW.g (AL.r (qN ag_67) ?_)); refine AL.oq (oS sz_67 ?_); refine AL.b ?_; refine AL.ra ?_; refine AL.nil (AW.ret ?_); refine r2 ag_67 ?_; simp_all [partsO, zeroO, OpD.cs]
   refine AL.n ?_; (iterate 4 refine AL.rf ?_); refine AL.r qf ?_; refine AL.nil (AW.cond_f rfl (AW.skip (AW.g (AL.r (qN ag_67) ?_)))); refine AL.oq (oS sz_67 ?_); refine AL.b ?_; refine AL.ra ?_; refine AL.nil (AW.ret ?_); refine r2 ag_67 ?_; simp_all [partsO, zeroO, OpD.cs]
  refine AW.g (AL.r qb ?_); refine AL.ra ?_; refine AL.nil (AW.cd rfl (fun h40 => ?_) (fun h40 => ?_))
  ·refine AW.seq (AW.drawX 2 (by kernel_rfl) ?_); refine ADX.r 0 rfl (xa fo_67_6) rfl ?_; refine ADX.r 1 rfl (xN ag_55) rfl ?_; refine ADX.r 2 rfl (xa fo_67_8) rfl ?_; refine ADX.r 3 rfl (xl ag_4) rfl ?_; refine ADX.r 4 rfl (xa fo_67_10) rfl ?_; refine ADX.r 5 rfl (xl ag_24) rfl ?_; refine ADX.r 6 rfl (xa fo_67_6) rfl ?_; refine ADX.stor 7 rfl (by kernel_rfl) rfl rfl rfl rfl rfl rfl sz_55 ?_; refine ADX.n ?_; refine ADX.r 8 rfl (xa fo_67_8) rfl ?_; refine ADX.stor 9 rfl (by kernel_rfl) rfl rfl rfl rfl rfl rfl sz_4 ?_; refine ADX.n ?_; refine ADX.r 10 rfl (xa fo_67_10) rfl ?_; refine ADX.stor 11 rfl (by kernel_rfl) rfl rfl rfl rfl rfl rfl sz_24 ?_; refine ADX.n ?_; refine ADX.done (by kernel_rfl) ?_; change AW _ _ _ _ _; refine AW.g (AL.r (qa fo_67_8) ?_); refine AL.r (ql ag_4) ?_; refine AL.nil (AW.cd rfl (fun h52 => ?_) (fun h52 => ?_))
   ·refine AW.region (AL.r (qa fo_67_9) ?_); refine AL.r (ql ag_9) ?_; refine AL.r (qa fo_67_9) ?_; refine AL.oq (oS sz_9 ?_); refine AL.b ?_; refine AL.nil (AW.seq (AW.g (AL.r (qN ag_67) ?_))); refine AL.cl (placed_c o) ?_; refine AL.n ?_; refine AL.rm ?_; refine AL.fk (d := 63) rfl (fun h63 => ?_) (fun h63 => ?_)
    ·refine AL.n ?_; refine AL.ro (qa fo_67_6) ?_; refine AL.ro (qa fo_55_0) ?_; refine AL.ro (ql ag_3) ?_; refine AL.ro qb ?_; refine AL.r qt ?_; refine AL.nil (AW.cd rfl (fun h68 => ?_) (fun h68 => ?_))
     ·refine AW.region (AL.r (qa fo_67_5) ?_); refine AL.r (ql ag_9) ?_; refine AL.r (qa fo_67_5) ?_; refine AL.oq (oS sz_9 ?_); refine AL.b ?_; refine AL.nil (AW.g (AL.r (qN ag_67) ?_)); refine AL.oq (oS sz_67 ?_); refine AL.b ?_; refine AL.ra ?_; refine AL.nil (AW.ret ?_); refine r2 ag_67 ?_; simp_all [partsO, zeroO, OpD.cs]
     refine AW.skip (AW.g (AL.r (qN ag_67) ?_)); refine AL.oq (oS sz_67 ?_); refine AL.b ?_; refine AL.ra ?_; refine AL.nil (AW.ret ?_); refine r2 ag_67 ?_; simp_all [partsO, zeroO, OpD.cs]
    refine AL.n ?_; (iterate 4 refine AL.rf ?_); refine AL.r qf ?_; refine AL.nil (AW.cond_f rfl (AW.skip (AW.g (AL.r (qN ag_67) ?_)))); refine AL.oq (oS sz_67 ?_); refine AL.b ?_; refine AL.ra ?_; refine AL.nil (AW.ret ?_); refine r2 ag_67 ?_; simp_all [partsO, zeroO, OpD.cs]
   refine AW.skip (AW.seq (AW.g (AL.r (qN ag_67) ?_))); refine AL.cl (placed_c o) ?_; refine AL.n ?_; refine AL.rm ?_; refine AL.fk (d := 63) rfl (fun h63 => ?_) (fun h63 => ?_)
   ·refine AL.n ?_; refine AL.ro (qa fo_67_6) ?_; refine AL.ro (qa fo_55_0) ?_; refine AL.ro (ql ag_3) ?_; refine AL.ro qb ?_; refine AL.r qt ?_; refine AL.nil (AW.cd rfl (fun h68 => ?_) (fun h68 => ?_))
    ·refine AW.region (AL.r (qa fo_67_5) ?_); refine AL.r (ql ag_9) ?_; refine AL.r (qa fo_67_5) ?_; refine AL.oq (oS sz_9 ?_); refine AL.b ?_; refine AL.nil (AW.g (AL.r (qN ag_67) ?_)); refine AL.oq (oS sz_67 ?_); refine AL.b ?_; refine AL.ra ?_; refine AL.nil (AW.ret ?_); refine r2 ag_67 ?_; simp_all [partsO, zeroO, OpD.cs]
    refine AW.skip (AW.g (AL.r (qN ag_67) ?_)); refine AL.oq (oS sz_67 ?_); refine AL.b ?_; refine AL.ra ?_; refine AL.nil (AW.ret ?_); refine r2 ag_67 ?_; simp_all [partsO, zeroO, OpD.cs]
   refine AL.n ?_; (iterate 4 refine AL.rf ?_); refine AL.r qf ?_; refine AL.nil (AW.cond_f rfl (AW.skip (AW.g (AL.r (qN ag_67) ?_)))); refine AL.oq (oS sz_67 ?_); refine AL.b ?_; refine AL.ra ?_; refine AL.nil (AW.ret ?_); refine r2 ag_67 ?_; simp_all [partsO, zeroO, OpD.cs]
  refine AW.g (AL.r qb ?_); refine AL.ra ?_; refine AL.nil (AW.cd rfl (fun h56 => ?_) (fun h56 => ?_))
  ·refine AW.region (AL.r (qa fo_67_10) ?_); refine AL.r (ql ag_24) ?_; refine AL.r (qa fo_67_10) ?_; refine AL.oq (oS sz_24 ?_); refine AL.b ?_; refine AL.nil (AW.seq (AW.g (AL.r (qN ag_67) ?_))); refine AL.cl (placed_c o) ?_; refine AL.n ?_; refine AL.rm ?_; refine AL.fk (d := 63) rfl (fun h63 => ?_) (fun h63 => ?_)
   ·refine AL.n ?_; refine AL.ro (qa fo_67_6) ?_; refine AL.ro (qa fo_55_0) ?_; refine AL.ro (ql ag_3) ?_; refine AL.ro qb ?_; refine AL.r qt ?_; refine AL.nil (AW.cd rfl (fun h68 => ?_) (fun h68 => ?_))
    ·refine AW.region (AL.r (qa fo_67_5) ?_); refine AL.r (ql ag_9) ?_; refine AL.r (qa fo_67_5) ?_; refine AL.oq (oS sz_9 ?_); refine AL.b ?_; refine AL.nil (AW.g (AL.r (qN ag_67) ?_)); refine AL.oq (oS sz_67 ?_); refine AL.b ?_; refine AL.ra ?_; refine AL.nil (AW.ret ?_); refine r2 ag_67 ?_; simp_all [partsO, zeroO, OpD.cs]
    refine AW.skip (AW.g (AL.r (qN ag_67) ?_)); refine AL.oq (oS sz_67 ?_); refine AL.b ?_; refine AL.ra ?_; refine AL.nil (AW.ret ?_); refine r2 ag_67 ?_; simp_all [partsO, zeroO, OpD.cs]
   refine AL.n ?_; (iterate 4 refine AL.rf ?_); refine AL.r qf ?_; refine AL.nil (AW.cond_f rfl (AW.skip (AW.g (AL.r (qN ag_67) ?_)))); refine AL.oq (oS sz_67 ?_); refine AL.b ?_; refine AL.ra ?_; refine AL.nil (AW.ret ?_); refine r2 ag_67 ?_; simp_all [partsO, zeroO, OpD.cs]
  refine AW.g (AL.r (qB pl_67 ze_67) ?_); refine AL.oq (oS sz_67 ?_); refine AL.b ?_; refine AL.ra ?_; refine AL.nil (AW.ret ?_); refine r2 ag_67 ?_; simp_all [partsO, zeroO, OpD.cs]
def okA {α : Type} (p : α → Bool) (r : α → α → Bool) (l : List α) (i : Nat) : Bool := match l[i]? with
  | none => true
  | some f => p f && (match i with | 0 => true | j + 1 => match l[j]? with | none => true | some g => r g f)
section
variable {α : Type} {p : α → Bool} {r : α → α → Bool} {l : List α} {k : Nat}
theorem okA_0 (h : 0 < l.length) : okA p r l 0 = p l[0] := by simp [okA, h]
theorem okA_s (h : k < l.length) (h0 : 0 < k) : okA p r l k = (p l[k] && r (l[k - 1]'(by omega)) l[k]) := by
  obtain ⟨j, rfl⟩ : ∃ j, k = j + 1 := ⟨k - 1, by omega⟩
  have hj : j < l.length := by omega
  simp [okA, h, hj]
theorem okA_f (h : k < l.length) (hr : p l[k] = false) : okA p r l k = false := by
  unfold okA
  rw [List.getElem?_eq_getElem h]
  simp [hr]
theorem okA_all (h : ∀ i, i < l.length → okA p r l i = true) : (List.range l.length).all (okA p r l) = true := by
  rw [List.all_eq_true]; exact fun i hi => h i (List.mem_range.1 hi)
theorem okA_no (hk : k < l.length) (h : okA p r l k = false) : (List.range l.length).all (okA p r l) = false := by
  rw [List.all_eq_false]; exact ⟨k, List.mem_range.2 hk, by rw [h]; simp⟩
end
def dropP (o : OpD) (t : TagD) : Bool := tagB t && !(decide (t = o.id))
def dropsB (o : OpD) : Bool := decide (o.drops.length ≤ 60) && (List.range o.drops.length).all (okA (dropP o) lessT o.drops)
theorem dropsB_f {o : OpD} {k : Nat} (hk : k < o.drops.length) (h : okA (dropP o) lessT o.drops k = false) : dropsB o = false := by unfold dropsB; rw [okA_no hk h, Bool.and_false]
theorem dropsB_t {o : OpD} (h1 : o.drops.length ≤ 60) (h : ∀ i, i < o.drops.length → okA (dropP o) lessT o.drops i = true) : dropsB o = true := by unfold dropsB; rw [okA_all h, decide_eq_true h1]; rfl
theorem dropsB_l {o : OpD} (h : 60 < o.drops.length) : dropsB o = false := by unfold dropsB; rw [decide_eq_false (by omega), Bool.false_and]
theorem drops_c (o : OpD) : AC Try.prog 73 [o.av] (fun r => r = .s (AB (dropsB o))) := by
  change AC _ _ [.ag [AI o.id.rep, AI o.id.n, AI o.schema.rep, AI o.schema.n, AI o.time, AS o.cart, AI o.kind, AS o.item, AI o.at_.scope, AS o.at_.group, AS o.at_.name, AI o.delta, AB o.has, AS o.text, .sl (o.drops.map TagD.cs)]] _; refine AC.of' 39 2 Try.func73 rfl ?_; change AW _ _ _ _ [TK.mk 0 .off, TK.mk 0 .off]; refine AW.g (AL.oq (AOpB.op (oB 0 ?_))); refine AL.n ?_; refine AL.ra ?_; refine AL.nil (AW.seq (AW.g (AL.r (qa fo_67_10) ?_))); refine AL.r (ql ag_24) ?_; refine AL.r (lN el_24) ?_; refine AL.r qb ?_; refine AL.nil (AW.cd rfl (fun h8 => ?_) (fun h8 => ?_))
  ·refine AW.g (AL.ra ?_); refine AL.nil (AW.ret (r1t ?_)); rw [dropsB_l (by omega)]
  refine AW.skip (AW.seq (AW.g (AL.r (qa fo_67_10) ?_))); refine AL.r (ql ag_24) ?_; refine AL.r (lN el_24) ?_; refine AL.rm ?_; refine AL.nil (AW.block (AW.loopM (ι := Nat) [2, 3, 4, 13, 14, 15, 16, 17, 18, 19, 20, 21, 22, 23, 24, 25, 26, 27, 28, 29, 30, 31, 32, 33, 34, 35, 36, 37, 38, 39] (fun k => [(12, AI (k : Int))]) [1] (fun k => []) (fun k => k ≤ o.drops.length ∧ ∀ i, i < k → okA (dropP o) lessT o.drops i = true) (fun k => o.drops.length - k) 0 (⟨by omega, fun i hi => absurd hi (by omega)⟩) wk sk ?_)); rintro k gs hJ; refine AW.nm ?_; obtain ⟨hk, hok⟩ := hJ; refine AW.g (AL.r qb ?_); refine AL.nil (AW.seq (AW.cd rfl (fun h13 => ?_) (fun h13 => ?_)))
  ·refine AW.skip (AW.seq (AW.block (AW.g (AL.rm ?_)))); refine AL.r (rd_iaddr_sl rfl el_24 rfl rfl rfl (get_mapA (by omega)) rfl) ?_; refine AL.r (rd_loadN_ep rfl ag_51 rfl (Nat.le_of_ble_eq_true rfl) rfl) ?_; refine AL.oq (AOpB.op (oA 1 ze_51 ?_)); refine AL.n ?_; refine AL.ra ?_; refine AL.oq (oS sz_51 ?_); refine AL.n ?_; refine AL.nil (AW.seq (AW.g (AL.r (qN ag_51) ?_))); refine AL.cl (tag_c (o.drops[k]'(by omega))) ?_; refine AL.n ?_; refine AL.r qu ?_; refine AL.rm ?_; refine AL.fk (d := 20) rfl (fun h20 => ?_) (fun h20 => ?_)
   ·refine AL.n ?_; (iterate 4 refine AL.rf ?_); refine AL.r qt ?_; refine AL.nil (AW.cond_t rfl (AW.g (AL.ra ?_))); refine AL.nil (AW.ret (r1t ?_)); rw [dropsB_f (k := k) (by omega) (okA_f (by omega) (by simp_all [dropP, tagD_iff]))]
   refine AL.n ?_; refine AL.ro (qN ag_51) ?_; refine AL.ro (qa fo_67_0) ?_; refine AL.ro (qN ag_51) ?_; refine AL.ro (rd_eq_Tag rfl rfl rfl) ?_; refine AL.r qf ?_; refine AL.nil (AW.cd rfl (fun h25 => ?_) (fun h25 => ?_))
   ·refine AW.g (AL.ra ?_); refine AL.nil (AW.ret (r1t ?_)); rw [dropsB_f (k := k) (by omega) (okA_f (by omega) (by simp_all [dropP, tagD_iff]))]
   refine AW.skip (AW.seq (AW.draw (by kernel_rfl) ?_)); refine AD.r 0 rfl (rd_move rfl rfl) rfl ?_; refine AD.r 1 rfl qb rfl ?_; refine AD.r 2 rfl (rd_move rfl rfl) rfl ?_; refine AD.fk (d := 28) rfl (fun h28 => ?_) (fun h28 => ?_)
   ·refine AD.n ?_; refine AD.r 3 rfl (qa fo_67_10) ⟨_, _, rfl, rfl, rfl⟩ ?_; refine AD.r 4 rfl (ql ag_24) ⟨_, _, rfl, rfl, rfl⟩ ?_; refine AD.r 5 rfl (rd_move rfl rfl) ⟨_, _, rfl, rfl, rfl⟩ ?_; refine AD.r 6 rfl (rd_arith_sub rfl rfl rfl (by first | exact IntWalk.i64_in _ (by omega) | rfl)) ⟨_, _, rfl, rfl, rfl⟩ ?_; refine AD.r 7 rfl (rd_iaddr_sl rfl el_24 rfl rfl (n := k - 1) (by omega) (get_mapA (by omega)) rfl) ⟨_, _, rfl, rfl, rfl⟩ ?_; refine AD.r 8 rfl (rd_loadN_ep rfl ag_51 rfl (Nat.le_of_ble_eq_true rfl) rfl) ⟨_, _, rfl, rfl, rfl⟩ ?_; refine AD.r 9 rfl (qN ag_51) ⟨_, _, rfl, rfl, rfl⟩ ?_; refine AD.move 10 rfl (by kernel_rfl) ⟨_, _, rfl, rfl, rfl⟩ (op_call (tless_c (o.drops[k - 1]'(by omega)) (o.drops[k]'(by omega))) rfl (by kernel_rfl) rfl (none) ?_); rintro r rfl; refine AD.n ?_; refine AD.r 11 rfl qu ⟨_, _, rfl, rfl, rfl⟩ ?_; refine AD.r 12 rfl (rd_pick_t rfl rfl rfl) rfl ?_; refine AD.done (by kernel_rfl) ?_; change AW _ _ _ _ _; refine AW.cd rfl (fun h38 => ?_) (fun h38 => ?_)
    ·refine AW.g (AL.ra ?_); refine AL.nil (AW.ret (r1t ?_)); rw [dropsB_f (k := k) (by omega) (by rw [okA_s (by omega) (by omega)]; simp_all)]
    refine AW.skip ?_; change AW _ _ _ _ _; refine AW.region ?_; refine AL.r qA ?_; refine AL.rm ?_; refine AL.nil ?_; refine ⟨k + 1, ?_, by first | omega | (simp only []; omega), ?_, ?_⟩
    ·exact ⟨by omega, all_next hok (by first | (rw [okA_s (by omega) (by omega)]; simp_all [dropP, tagD_iff] <;> omega) | (obtain rfl : k = 0 := (by omega); rw [okA_0 (by omega)]; simp_all [dropP, tagD_iff] <;> omega))⟩
    ·exact wk
    exact sk
   refine AD.n ?_; refine AD.s 3 rfl ⟨_, _, rfl, rfl, rfl⟩ ?_; refine AD.s 4 rfl ⟨_, _, rfl, rfl, rfl⟩ ?_; refine AD.s 5 rfl ⟨_, _, rfl, rfl, rfl⟩ ?_; refine AD.s 6 rfl ⟨_, _, rfl, rfl, rfl⟩ ?_; refine AD.s 7 rfl ⟨_, _, rfl, rfl, rfl⟩ ?_; refine AD.s 8 rfl ⟨_, _, rfl, rfl, rfl⟩ ?_; refine AD.s 9 rfl ⟨_, _, rfl, rfl, rfl⟩ ?_; refine AD.s 10 rfl ⟨_, _, rfl, rfl, rfl⟩ ?_; refine AD.s 11 rfl ⟨_, _, rfl, rfl, rfl⟩ ?_; refine AD.r 12 rfl (rd_pick_f rfl rfl rfl) rfl ?_; refine AD.done (by kernel_rfl) ?_; change AW _ _ _ _ _; refine AW.cond_f rfl ?_; refine AW.skip ?_; change AW _ _ _ _ _; refine AW.region ?_; refine AL.r qA ?_; refine AL.rm ?_; refine AL.nil ?_; refine ⟨k + 1, ?_, by first | omega | (simp only []; omega), ?_, ?_⟩
   ·exact ⟨by omega, all_next hok (by first | (rw [okA_s (by omega) (by omega)]; simp_all [dropP, tagD_iff] <;> omega) | (obtain rfl : k = 0 := (by omega); rw [okA_0 (by omega)]; simp_all [dropP, tagD_iff] <;> omega))⟩
   ·exact wk
   exact sk
  refine AW.exit ?_; change AW _ _ _ _ _; refine AW.g (AL.ra ?_); refine AL.nil (AW.ret (r1t ?_)); rw [dropsB_t (by omega) (fun i hi => hok i (by omega))]
def plainB (o : OpD) : Bool := decide (o.at_ = ⟨0, [], []⟩) && decide (o.delta = 0) && !o.has && o.text.isEmpty
def plO (o : OpD) : Bool := decide (o.kind = 3) || decide (o.kind = 4)
def itO (o : OpD) : Bool := decide (o.kind = 1) || decide (o.kind = 2) || (plO o && decide (o.at_.scope = 1))
def sO (o : OpD) : Bool := decide (o = (partsO o).1)
theorem osame_p (o p : OpD) (hp : p = (partsO o).1) : AC Try.prog 68 [o.av, p.av] (fun r => r = .s (AB (sO o))) := by subst hp; exact osame_c o _
def rightO (o : OpD) : Bool := (partsO o).2 && sO o && tagB o.id && (decide (o.schema = ⟨0, 0⟩) || tagB o.schema) && decide (1 ≤ o.time) && decide (o.time ≤ 1099511627776) && nameB o.cart && (!plO o || placeB o.at_) && (!itO o || nameB o.item) && decide (-1048576 ≤ o.delta) && decide (o.delta ≤ 1048576) && decide (o.text.length ≤ 40) && dropsB o
theorem parts_g (o : OpD) : AC Try.prog 67 [o.av] (fun r => ∃ p : OpD, p = (partsO o).1 ∧ r = .s (.tu [.ag [AI p.id.rep, AI p.id.n, AI p.schema.rep, AI p.schema.n, AI p.time, AS p.cart, AI p.kind, AS p.item, AI p.at_.scope, AS p.at_.group, AS p.at_.name, AI p.delta, AB p.has, AS p.text, .sl (p.drops.map TagD.cs)], AB (partsO o).2])) := (parts_c o).mono fun r hr => ⟨_, rfl, hr⟩
theorem oright_g (o : OpD) : AC Try.prog 41 [o.av] (fun r => r = .s (AB (rightO o))) := by
  change AC _ _ [.ag [AI o.id.rep, AI o.id.n, AI o.schema.rep, AI o.schema.n, AI o.time, AS o.cart, AI o.kind, AS o.item, AI o.at_.scope, AS o.at_.group, AS o.at_.name, AI o.delta, AB o.has, AS o.text, .sl (o.drops.map TagD.cs)]] _; refine AC.of' 96 2 Try.func41 rfl ?_; change AW _ _ _ _ [TK.mk 0 .off, TK.mk 0 .off]; refine AW.g (AL.oq (AOpB.op (oB 0 ?_))); refine AL.n ?_; refine AL.ra ?_; refine AL.nil (AW.g (AL.r (qN ag_67) ?_)); refine AL.oq (AOpB.op (op_call (parts_g o) rfl (by kernel_rfl) rfl (none) ?_)); rintro r ⟨p, hp, rfl⟩; refine AL.n ?_; refine AL.rm ?_; refine AL.r qe ?_; refine AL.r qe ?_; refine AL.oq (AOpB.op (oA 1 ze_67 ?_)); refine AL.n ?_; refine AL.oq (oS sz_67 ?_); refine AL.n ?_; refine AL.ra ?_; refine AL.nil (AW.seq (AW.g (AL.rm ?_))); refine AL.r qu ?_; refine AL.rm ?_; refine AL.fk (d := 13) rfl (fun h13 => ?_) (fun h13 => ?_)
  ·refine AL.n ?_; (iterate 4 refine AL.rf ?_); refine AL.r qt ?_; refine AL.nil (AW.cond_t rfl (AW.g (AL.ra ?_))); refine AL.nil (AW.ret (r1t ?_)); refine sb ?_
   clear hp; simp_all [rightO]
  refine AL.n ?_; refine AL.ro (qN ag_67) ?_; refine AL.ro (qN ag_67) ?_; refine AL.on rfl rfl rfl (AOpB.op (op_call (osame_p o p hp) rfl (by kernel_rfl) rfl (none) ?_)); rintro r rfl; refine AL.n ?_; refine AL.ro qu ?_; refine AL.r qf ?_; refine AL.nil (AW.cd rfl (fun h18 => ?_) (fun h18 => ?_))
  ·refine AW.g (AL.ra ?_); refine AL.nil (AW.ret (r1t ?_)); refine sb ?_
   clear hp; simp_all [rightO]
  refine AW.skip (AW.join (ι := Unit) [2, 19, 20, 21, 22, 23, 24, 25, 26, 27, 28, 29, 30, 31, 32, 33, 34] (fun u34 => []) [] (fun u34 => []) (fun u34 => tagB o.id = true ∧ (decide (o.schema = ⟨0, 0⟩) || tagB o.schema) = true) ?_ ?_)
  ·refine AW.g ?_
   clear hp
   refine AL.r (qa fo_67_0) ?_; refine AL.r (qN ag_51) ?_; refine AL.cl (tag_c o.id) ?_; refine AL.n ?_; refine AL.r qu ?_; refine AL.rm ?_; refine AL.fk (d := 23) rfl (fun h23 => ?_) (fun h23 => ?_)
   ·refine AL.n ?_; (iterate 5 refine AL.rf ?_); (iterate 4 refine AL.ru ?_); refine AL.rf ?_; refine AL.r qt ?_; refine AL.nil (AW.cond_t rfl (AW.g (AL.ra ?_))); refine AL.nil (AW.ret (r1t ?_)); refine sb ?_; simp_all [rightO, tagD_iff]
   refine AL.n ?_; refine AL.ro (qa fo_67_1) ?_; refine AL.ro (qN ag_51) ?_; refine AL.ro (qB pl_51 ze_51) ?_; refine AL.ro (rd_ne_Tag rfl rfl rfl) ?_; refine AL.ro (rd_move rfl rfl) ?_; refine AL.fk (d := 28) rfl (fun h28 => ?_) (fun h28 => ?_)
   ·refine AL.n ?_; refine AL.ro (qa fo_67_1) ?_; refine AL.ro (qN ag_51) ?_; refine AL.on rfl rfl rfl (AOpB.op (op_call (tag_c o.schema) rfl (by kernel_rfl) rfl (none) ?_)); rintro r rfl; refine AL.n ?_; refine AL.ro qu ?_; refine AL.ro (rd_pick_t rfl rfl rfl) ?_; refine AL.r qf ?_; refine AL.nil (AW.cd rfl (fun h34 => ?_) (fun h34 => ?_))
    ·refine AW.g (AL.ra ?_); refine AL.nil (AW.ret (r1t ?_)); refine sb ?_; simp_all [rightO, tagD_iff]
    refine AW.skip ?_; refine ⟨(), by simp_all [tagD_iff], wk, sk⟩
   refine AL.n ?_; (iterate 4 refine AL.rf ?_); refine AL.ro (rd_pick_f rfl rfl rfl) ?_; refine AL.r qf ?_; refine AL.nil ?_; change AW _ _ _ _ _; refine AW.cond_f rfl ?_; refine AW.skip ?_; refine ⟨(), by simp_all [tagD_iff], wk, sk⟩
  rintro u34 gs34 hJ34; refine AW.nm ?_
  (try dsimp only at hJ34)
  change AW _ _ _ _ _; refine AW.seq (AW.g (AL.r (qa fo_67_2) ?_)); refine AL.r (ql ag_2) ?_; refine AL.r qb ?_; refine AL.rm ?_; refine AL.fk (d := 38) rfl (fun h38 => ?_) (fun h38 => ?_)
  ·refine AL.n ?_; (iterate 3 refine AL.rf ?_); refine AL.r qt ?_; refine AL.rm ?_; (iterate 4 refine AL.rf ?_); refine AL.r qt ?_; refine AL.nil (AW.cond_t rfl (AW.g (AL.ra ?_))); refine AL.nil (AW.ret (r1t ?_)); refine sb ?_; simp_all [rightO] <;> (intros; omega)
  refine AL.n ?_; refine AL.ro (qa fo_67_2) ?_; refine AL.ro (ql ag_2) ?_; refine AL.ro qb ?_; refine AL.r qf ?_; refine AL.rm ?_; refine AL.fk (d := 43) rfl (fun h43 => ?_) (fun h43 => ?_)
  ·refine AL.n ?_; (iterate 4 refine AL.rf ?_); refine AL.r qt ?_; refine AL.nil (AW.cond_t rfl (AW.g (AL.ra ?_))); refine AL.nil (AW.ret (r1t ?_)); refine sb ?_; simp_all [rightO] <;> (intros; omega)
  refine AL.n ?_; refine AL.ro (qa fo_67_3) ?_; refine AL.ro (ql ag_9) ?_; refine AL.on rfl rfl rfl (AOpB.op (op_call (name_c o.cart) rfl (by kernel_rfl) rfl (none) ?_)); rintro r rfl; refine AL.n ?_; refine AL.ro qu ?_; refine AL.r qf ?_; refine AL.nil (AW.cd rfl (fun h48 => ?_) (fun h48 => ?_))
  ·refine AW.g (AL.ra ?_); refine AL.nil (AW.ret (r1t ?_)); refine sb ?_; simp_all [rightO] <;> (intros; omega)
  refine AW.skip (AW.join (ι := Unit) [2, 49, 50, 51, 52, 53, 54, 55, 56] (fun u56 => []) [] (fun u56 => []) (fun u56 => (!plO o || placeB o.at_) = true) ?_ ?_)
  ·refine AW.g (AL.r (qN ag_67) ?_); refine AL.cl (placed_c o) ?_; refine AL.n ?_; refine AL.rm ?_; refine AL.fk (d := 51) rfl (fun h51 => ?_) (fun h51 => ?_)
   ·refine AL.n ?_; refine AL.ro (qa fo_67_6) ?_; refine AL.ro (qN ag_55) ?_; refine AL.on rfl rfl rfl (AOpB.op (op_call (place_c o.at_) rfl (by kernel_rfl) rfl (none) ?_)); rintro r rfl; refine AL.n ?_; refine AL.ro qu ?_; refine AL.r qt ?_; refine AL.nil (AW.cd rfl (fun h56 => ?_) (fun h56 => ?_))
    ·refine AW.g (AL.ra ?_); refine AL.nil (AW.ret (r1t ?_)); refine sb ?_; simp_all [rightO, plO] <;> (intros; omega)
    refine AW.skip ?_; refine ⟨(), by simp_all [plO], wk, sk⟩
   refine AL.n ?_; (iterate 4 refine AL.rf ?_); refine AL.r qf ?_; refine AL.nil ?_; change AW _ _ _ _ _; refine AW.cond_f rfl ?_; refine AW.skip ?_; refine ⟨(), by simp_all [plO], wk, sk⟩
  rintro u56 gs56 hJ56; refine AW.nm ?_
  (try dsimp only at hJ56)
  change AW _ _ _ _ _; refine AW.join (ι := Bool) [57, 58, 59, 60, 61, 62, 63, 64, 65, 66, 67, 68, 69, 70, 71, 72, 73, 74] (fun it => [(5, AB it)]) [] (fun it => []) (fun it => it = itO o) ?_ ?_
  ·refine AW.region (AL.r (qa fo_67_4) ?_); refine AL.r (ql ag_3) ?_; refine AL.r qb ?_; refine AL.rm ?_; refine AL.fk (d := 60) rfl (fun h60 => ?_) (fun h60 => ?_)
   ·refine AL.n ?_; (iterate 3 refine AL.rf ?_); refine AL.r qt ?_; refine AL.rm ?_; (iterate 3 refine AL.rf ?_); (iterate 4 refine AL.ru ?_); refine AL.rf ?_; refine AL.r qt ?_; refine AL.ra ?_; refine AL.nil ?_; refine ⟨true, by simp [itO, h60], wk, sk⟩
   refine AL.n ?_; refine AL.ro (qa fo_67_4) ?_; refine AL.ro (ql ag_3) ?_; refine AL.ro qb ?_; refine AL.r qf ?_; refine AL.rm ?_; refine AL.fk (d := 65) rfl (fun h65 => ?_) (fun h65 => ?_)
   ·refine AL.n ?_; (iterate 3 refine AL.rf ?_); (iterate 4 refine AL.ru ?_); refine AL.rf ?_; refine AL.r qt ?_; refine AL.ra ?_; refine AL.nil ?_; refine ⟨true, by simp [itO, h65], wk, sk⟩
   refine AL.n ?_; refine AL.ro (qN ag_67) ?_; refine AL.on rfl rfl rfl (AOpB.op (op_call (placed_c o) rfl (by kernel_rfl) rfl (none) ?_)); rintro r rfl; refine AL.n ?_; refine AL.ro (rd_move rfl rfl) ?_; refine AL.fk (d := 68) rfl (fun h68 => ?_) (fun h68 => ?_)
   ·refine AL.n ?_; refine AL.ro (qa fo_67_6) ?_; refine AL.ro (qa fo_55_0) ?_; refine AL.ro (ql ag_3) ?_; refine AL.ro qb ?_; refine AL.ro (rd_pick_t rfl rfl rfl) ?_; refine AL.r qf ?_; refine AL.ra ?_; refine AL.nil ?_; refine ⟨o.at_.scope == 1, by unfold itO plO; rw [h68, decide_eq_false h60, decide_eq_false h65]; exact beq_dec _ _, wk, sk⟩
   refine AL.n ?_; (iterate 4 refine AL.rf ?_); refine AL.ro (rd_pick_f rfl rfl rfl) ?_; refine AL.r qf ?_; refine AL.ra ?_; refine AL.nil ?_; refine ⟨false, by simp_all [itO, plO], wk, sk⟩
  rintro it gsR10 hJR10; refine AW.nm ?_
  (try dsimp only at hJR10)
  change AW _ _ _ _ _; refine AW.join (ι := Unit) [2, 75, 76, 77, 78, 79, 80, 81] (fun u81 => []) [] (fun u81 => []) (fun u81 => (!itO o || nameB o.item) = true) ?_ ?_
  ·refine AW.g ?_; subst hJR10; (iterate 2 refine AL.rm ?_); refine AL.fk (d := 76) rfl (fun h76 => ?_) (fun h76 => ?_)
   ·refine AL.n ?_; refine AL.ro (qa fo_67_5) ?_; refine AL.ro (ql ag_9) ?_; refine AL.on rfl rfl rfl (AOpB.op (op_call (name_c o.item) rfl (by kernel_rfl) rfl (none) ?_)); rintro r rfl; refine AL.n ?_; refine AL.ro qu ?_; refine AL.r qt ?_; refine AL.nil (AW.cd rfl (fun h81 => ?_) (fun h81 => ?_))
    ·refine AW.g (AL.ra ?_); refine AL.nil (AW.ret (r1t ?_)); refine sb ?_; simp_all [rightO] <;> (intros; omega)
    refine AW.skip ?_; refine ⟨(), by simp_all, wk, sk⟩
   refine AL.n ?_; (iterate 4 refine AL.rf ?_); refine AL.r qf ?_; refine AL.nil ?_; change AW _ _ _ _ _; refine AW.cond_f rfl ?_; refine AW.skip ?_; refine ⟨(), by simp_all, wk, sk⟩
  rintro u81 gs81 hJ81; refine AW.nm ?_
  (try dsimp only at hJ81)
  change AW _ _ _ _ _; refine AW.seq (AW.g (AL.r (qa fo_67_7) ?_)); refine AL.r (ql ag_2) ?_; refine AL.r qb ?_; refine AL.rm ?_; refine AL.fk (d := 85) rfl (fun h85 => ?_) (fun h85 => ?_)
  ·refine AL.n ?_; (iterate 3 refine AL.rf ?_); refine AL.r qt ?_; refine AL.nil (AW.cond_t rfl (AW.g (AL.ra ?_))); refine AL.nil (AW.ret (r1t ?_)); refine sb ?_; simp_all [rightO] <;> (intros; omega)
  refine AL.n ?_; refine AL.ro (qa fo_67_7) ?_; refine AL.ro (ql ag_2) ?_; refine AL.ro qb ?_; refine AL.r qf ?_; refine AL.nil (AW.cd rfl (fun h89 => ?_) (fun h89 => ?_))
  ·refine AW.g (AL.ra ?_); refine AL.nil (AW.ret (r1t ?_)); refine sb ?_; simp_all [rightO] <;> (intros; omega)
  refine AW.skip (AW.g (AL.r (qa fo_67_9) ?_)); refine AL.r (ql ag_9) ?_; refine AL.cl (text_c o.text) ?_; refine AL.n ?_; refine AL.rm ?_; refine AL.fk (d := 93) rfl (fun h93 => ?_) (fun h93 => ?_)
  ·refine AL.n ?_; refine AL.ro (qN ag_67) ?_; refine AL.on rfl rfl rfl (AOpB.op (op_call (drops_c o) rfl (by kernel_rfl) rfl (none) ?_)); rintro r rfl; refine AL.n ?_; refine AL.r qt ?_; refine AL.ra ?_; refine AL.nil (AW.ret (r1t ?_)); refine sb ?_; simp_all [rightO] <;> (intros; omega)
  refine AL.n ?_; (iterate 2 refine AL.rf ?_); refine AL.r qf ?_; refine AL.ra ?_; refine AL.nil (AW.ret (r1t ?_)); refine sb ?_; simp_all [rightO] <;> (intros; omega)
end Go.Proofs.Ytlapcfnmmpbeeaa
