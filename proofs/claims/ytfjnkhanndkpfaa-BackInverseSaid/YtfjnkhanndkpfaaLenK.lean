/- The law BackInverse, walked over abstract states; lenses as arguments. No conditions. -/
import Derived.Test.YtfjnkhanndkpfaaLenM
import Derived.Test.YtfjnkhanndkpfaaOpF
namespace Go.Proofs.Ytfjnkhanndkpfaa
set_option linter.unusedSimpArgs false
set_option linter.unusedVariables false
set_option maxRecDepth 100000
set_option maxRecDepth 100000
open Go.RowKit Go.ChangeShapes Go.WideShapes Go.ChangeAt Go.Deep

section
variable (x : LensD) (h : x.Small)
include h
theorem binv_t (hr : rightL x = true) : AC Try.prog 62 [x.av] (fun r => ∃ y : LensD, y = invL x ∧ r = .s (.tu [.ag [AI y.kind, AI y.at_.scope, AS y.at_.group, AS y.at_.name, AS y.name, AS y.other, AI y.factor, AI y.field.at_.scope, AS y.field.at_.group, AS y.field.at_.name, AI y.field.kind, AS y.field.dflt, .sl (csS y.field.cases), AI y.field.worth, .sl (y.forth.map PairD.cs), .sl (y.back.map PairD.cs)], AI 0])) :=
  (binv_c x h).mono fun r hh => ⟨invL x, rfl, by rw [hh, invP, if_pos hr]; rfl⟩
theorem binv_f (hr : rightL x = false) : AC Try.prog 62 [x.av] (fun r => ∃ y : LensD, y = zL ∧ r = .s (.tu [.ag [AI y.kind, AI y.at_.scope, AS y.at_.group, AS y.at_.name, AS y.name, AS y.other, AI y.factor, AI y.field.at_.scope, AS y.field.at_.group, AS y.field.at_.name, AI y.field.kind, AS y.field.dflt, .sl (csS y.field.cases), AI y.field.worth, .sl (y.forth.map PairD.cs), .sl (y.back.map PairD.cs)], AI 5])) :=
  (binv_c x h).mono fun r hh => ⟨zL, rfl, by rw [hh, invP, if_neg (by rw [hr]; decide)]; rfl⟩
theorem rinv_t (hr : rightL x = true) : AC Try.prog 63 [x.av] (fun r => ∃ y : LensD, y = invL x ∧ r = .s (.tu [.ag [AI y.kind, AI y.at_.scope, AS y.at_.group, AS y.at_.name, AS y.name, AS y.other, AI y.factor, AI y.field.at_.scope, AS y.field.at_.group, AS y.field.at_.name, AI y.field.kind, AS y.field.dflt, .sl (csS y.field.cases), AI y.field.worth, .sl (y.forth.map PairD.cs), .sl (y.back.map PairD.cs)], AI 0])) :=
  (rinv_c x h).mono fun r hh => ⟨invL x, rfl, by rw [hh, invP, if_pos hr]; rfl⟩
theorem rinv_f (hr : rightL x = false) : AC Try.prog 63 [x.av] (fun r => ∃ y : LensD, y = zL ∧ r = .s (.tu [.ag [AI y.kind, AI y.at_.scope, AS y.at_.group, AS y.at_.name, AS y.name, AS y.other, AI y.factor, AI y.field.at_.scope, AS y.field.at_.group, AS y.field.at_.name, AI y.field.kind, AS y.field.dflt, .sl (csS y.field.cases), AI y.field.worth, .sl (y.forth.map PairD.cs), .sl (y.back.map PairD.cs)], AI 5])) :=
  (rinv_c x h).mono fun r hh => ⟨zL, rfl, by rw [hh, invP, if_neg (by rw [hr]; decide)]; rfl⟩
end
theorem zL_small : zL.Small := ⟨by decide, by decide, by decide⟩
theorem inverse_c (x : LensD) : AC Try.prog 12 [x.av] (fun r => r = .s (AB true)) := by
  cases hr : rightL x with
  | false =>
    change AC _ _ [.ag [AI x.kind, AI x.at_.scope, AS x.at_.group, AS x.at_.name, AS x.name, AS x.other, AI x.factor, AI x.field.at_.scope, AS x.field.at_.group, AS x.field.at_.name, AI x.field.kind, AS x.field.dflt, .sl (csS x.field.cases), AI x.field.worth, .sl (x.forth.map PairD.cs), .sl (x.back.map PairD.cs)]] _
    refine AC.of' 49 4 Try.func12 rfl ?_
    change AW _ _ _ _ [TK.mk 0 .off, TK.mk 0 .off, TK.mk 0 .off, TK.mk 0 .off]
    refine AW.seq ?_
    refine AW.region ?_
    refine AL.op rfl (AOpB.op (op_box 0 rfl rfl rfl rfl rfl ?_))
    refine AL.n ?_
    refine AL.ra ?_
    refine AL.nil ?_
    change AW _ _ _ _ _
    refine AW.seq ?_
    refine AW.seq ?_
    refine AW.region ?_
    refine AL.op rfl (AOpB.op (op_call (awake16) rfl (by kernel_rfl) rfl (none) ?_))
    rintro r rfl
    refine AL.n ?_
    refine AL.r (rd_un rfl rfl (fun _ => rfl)) ?_
    refine AL.nil ?_
    change AW _ _ _ _ _
    refine AW.cond_f rfl ?_
    refine AW.skip ?_
    change AW _ _ _ _ _
    refine AW.seq ?_
    refine AW.seq ?_
    refine AW.region ?_
    refine AL.r (rd_loadN_bx rfl ag_95 rfl rfl (Nat.le_of_ble_eq_true rfl) rfl) ?_
    refine AL.op rfl (AOpB.op (op_call (rheavyl_c x) rfl (by kernel_rfl) rfl (none) ?_))
    rintro r rfl
    refine AL.n ?_
    refine AL.nil ?_
    change AW _ _ _ _ _
    refine AW.cd rfl (fun h12 => ?_) (fun h12 => ?_)
    ·skip
     refine AW.seq ?_
     refine AW.region ?_
     refine AL.ra ?_
     refine AL.nil ?_
     change AW _ _ _ _ _
     refine AW.ret ?_
     change ResA _ _ _ _ _
     refine res1 rfl (ResV.tmp rfl) rfl ?_
     rfl
    ·skip
     refine AW.skip ?_
     change AW _ _ _ _ _
     refine AW.seq ?_
     refine AW.region ?_
     have hs := heavyL_small (x := x) (by assumption)
     refine AL.r (rd_loadN_bx rfl ag_95 rfl rfl (Nat.le_of_ble_eq_true rfl) rfl) ?_
     refine AL.op rfl (AOpB.op (op_call (binv_f x hs hr) rfl (by kernel_rfl) rfl (none) ?_))
     rintro r ⟨y, hy, rfl⟩
     refine AL.n ?_
     refine AL.rm ?_
     refine AL.r (rd_extract rfl rfl rfl) ?_
     refine AL.r (rd_extract rfl rfl rfl) ?_
     refine AL.op rfl (AOpB.op (op_alloc 1 rfl ze_95 rfl ?_))
     refine AL.n ?_
     refine AL.op rfl (op_store_ rfl rfl rfl rfl rfl sz_95 ?_)
     refine AL.b ?_
     refine AL.ra ?_
     refine AL.nil ?_
     change AW _ _ _ _ _
     refine AW.seq ?_
     refine AW.region ?_
     refine AL.r (rd_loadN_bx rfl ag_95 rfl rfl (Nat.le_of_ble_eq_true rfl) rfl) ?_
     refine AL.op rfl (AOpB.op (op_call (rinv_f x hs hr) rfl (by kernel_rfl) rfl (none) ?_))
     rintro r ⟨z, hz, rfl⟩
     refine AL.n ?_
     refine AL.rm ?_
     refine AL.r (rd_extract rfl rfl rfl) ?_
     refine AL.r (rd_extract rfl rfl rfl) ?_
     refine AL.op rfl (AOpB.op (op_alloc 2 rfl ze_95 rfl ?_))
     refine AL.n ?_
     refine AL.op rfl (op_store_ rfl rfl rfl rfl rfl sz_95 ?_)
     refine AL.b ?_
     refine AL.ra ?_
     refine AL.nil ?_
     change AW _ _ _ _ _
     refine AW.seq ?_
     refine AW.seq ?_
     refine AW.region ?_
     refine AL.rm ?_
     refine AL.rm ?_
     refine AL.r (rd_bin rfl rfl rfl (fun _ => rfl)) ?_
     refine AL.rm ?_
     refine AL.fk (d := 26) rfl (fun h26 => ?_) (fun h26 => ?_)
     ·skip
      exact (h26 trivial).elim
     ·skip
      refine AL.n ?_
      refine AL.ro (rd_loadN_bx rfl ag_95 rfl rfl (Nat.le_of_ble_eq_true rfl) rfl) ?_
      refine AL.ro (rd_loadN_bx rfl ag_95 rfl rfl (Nat.le_of_ble_eq_true rfl) rfl) ?_
      refine AL.on rfl rfl rfl (AOpB.op (op_call (rlsame_c y z (hy ▸ zL_small)) rfl (by kernel_rfl) rfl (none) ?_))
      rintro r rfl
      refine AL.n ?_
      refine AL.ro (rd_un rfl rfl (fun _ => rfl)) ?_
      refine AL.r (rd_pick_f rfl rfl rfl) ?_
      refine AL.nil ?_
      change AW _ _ _ _ _
      refine AW.cd rfl (fun h31 => ?_) (fun h31 => ?_)
      ·skip
       exact absurd (hy.trans hz.symm) h31
      ·skip
       refine AW.skip ?_
       change AW _ _ _ _ _
       refine AW.seq ?_
       refine AW.seq ?_
       refine AW.region ?_
       refine AL.rm ?_
       refine AL.r (rd_bin rfl rfl rfl (fun _ => rfl)) ?_
       refine AL.nil ?_
       change AW _ _ _ _ _
       refine AW.cd rfl (fun h33 => ?_) (fun h33 => ?_)
       ·skip
        refine AW.seq ?_
        refine AW.region ?_
        refine AL.ra ?_
        refine AL.nil ?_
        change AW _ _ _ _ _
        refine AW.ret ?_
        change ResA _ _ _ _ _
        refine res1 rfl (ResV.tmp rfl) rfl ?_
        rfl
       ·skip
        exact absurd h33 (by decide)
  | true =>
    change AC _ _ [.ag [AI x.kind, AI x.at_.scope, AS x.at_.group, AS x.at_.name, AS x.name, AS x.other, AI x.factor, AI x.field.at_.scope, AS x.field.at_.group, AS x.field.at_.name, AI x.field.kind, AS x.field.dflt, .sl (csS x.field.cases), AI x.field.worth, .sl (x.forth.map PairD.cs), .sl (x.back.map PairD.cs)]] _
    refine AC.of' 49 4 Try.func12 rfl ?_
    change AW _ _ _ _ [TK.mk 0 .off, TK.mk 0 .off, TK.mk 0 .off, TK.mk 0 .off]
    refine AW.seq ?_
    refine AW.region ?_
    refine AL.op rfl (AOpB.op (op_box 0 rfl rfl rfl rfl rfl ?_))
    refine AL.n ?_
    refine AL.ra ?_
    refine AL.nil ?_
    change AW _ _ _ _ _
    refine AW.seq ?_
    refine AW.seq ?_
    refine AW.region ?_
    refine AL.op rfl (AOpB.op (op_call (awake16) rfl (by kernel_rfl) rfl (none) ?_))
    rintro r rfl
    refine AL.n ?_
    refine AL.r (rd_un rfl rfl (fun _ => rfl)) ?_
    refine AL.nil ?_
    change AW _ _ _ _ _
    refine AW.cond_f rfl ?_
    refine AW.skip ?_
    change AW _ _ _ _ _
    refine AW.seq ?_
    refine AW.seq ?_
    refine AW.region ?_
    refine AL.r (rd_loadN_bx rfl ag_95 rfl rfl (Nat.le_of_ble_eq_true rfl) rfl) ?_
    refine AL.op rfl (AOpB.op (op_call (rheavyl_c x) rfl (by kernel_rfl) rfl (none) ?_))
    rintro r rfl
    refine AL.n ?_
    refine AL.nil ?_
    change AW _ _ _ _ _
    refine AW.cd rfl (fun h12 => ?_) (fun h12 => ?_)
    ·skip
     refine AW.seq ?_
     refine AW.region ?_
     refine AL.ra ?_
     refine AL.nil ?_
     change AW _ _ _ _ _
     refine AW.ret ?_
     change ResA _ _ _ _ _
     refine res1 rfl (ResV.tmp rfl) rfl ?_
     rfl
    ·skip
     refine AW.skip ?_
     change AW _ _ _ _ _
     refine AW.seq ?_
     refine AW.region ?_
     have hs := heavyL_small (x := x) (by assumption)
     refine AL.r (rd_loadN_bx rfl ag_95 rfl rfl (Nat.le_of_ble_eq_true rfl) rfl) ?_
     refine AL.op rfl (AOpB.op (op_call (binv_t x hs hr) rfl (by kernel_rfl) rfl (none) ?_))
     rintro r ⟨y, hy, rfl⟩
     refine AL.n ?_
     refine AL.rm ?_
     refine AL.r (rd_extract rfl rfl rfl) ?_
     refine AL.r (rd_extract rfl rfl rfl) ?_
     refine AL.op rfl (AOpB.op (op_alloc 1 rfl ze_95 rfl ?_))
     refine AL.n ?_
     refine AL.op rfl (op_store_ rfl rfl rfl rfl rfl sz_95 ?_)
     refine AL.b ?_
     refine AL.ra ?_
     refine AL.nil ?_
     change AW _ _ _ _ _
     refine AW.seq ?_
     refine AW.region ?_
     refine AL.r (rd_loadN_bx rfl ag_95 rfl rfl (Nat.le_of_ble_eq_true rfl) rfl) ?_
     refine AL.op rfl (AOpB.op (op_call (rinv_t x hs hr) rfl (by kernel_rfl) rfl (none) ?_))
     rintro r ⟨z, hz, rfl⟩
     refine AL.n ?_
     refine AL.rm ?_
     refine AL.r (rd_extract rfl rfl rfl) ?_
     refine AL.r (rd_extract rfl rfl rfl) ?_
     refine AL.op rfl (AOpB.op (op_alloc 2 rfl ze_95 rfl ?_))
     refine AL.n ?_
     refine AL.op rfl (op_store_ rfl rfl rfl rfl rfl sz_95 ?_)
     refine AL.b ?_
     refine AL.ra ?_
     refine AL.nil ?_
     change AW _ _ _ _ _
     refine AW.seq ?_
     refine AW.seq ?_
     refine AW.region ?_
     refine AL.rm ?_
     refine AL.rm ?_
     refine AL.r (rd_bin rfl rfl rfl (fun _ => rfl)) ?_
     refine AL.rm ?_
     refine AL.fk (d := 26) rfl (fun h26 => ?_) (fun h26 => ?_)
     ·skip
      exact (h26 trivial).elim
     ·skip
      refine AL.n ?_
      refine AL.ro (rd_loadN_bx rfl ag_95 rfl rfl (Nat.le_of_ble_eq_true rfl) rfl) ?_
      refine AL.ro (rd_loadN_bx rfl ag_95 rfl rfl (Nat.le_of_ble_eq_true rfl) rfl) ?_
      refine AL.on rfl rfl rfl (AOpB.op (op_call (rlsame_c y z (hy ▸ hs.inv)) rfl (by kernel_rfl) rfl (none) ?_))
      rintro r rfl
      refine AL.n ?_
      refine AL.ro (rd_un rfl rfl (fun _ => rfl)) ?_
      refine AL.r (rd_pick_f rfl rfl rfl) ?_
      refine AL.nil ?_
      change AW _ _ _ _ _
      refine AW.cd rfl (fun h31 => ?_) (fun h31 => ?_)
      ·skip
       exact absurd (hy.trans hz.symm) h31
      ·skip
       refine AW.skip ?_
       change AW _ _ _ _ _
       refine AW.seq ?_
       refine AW.seq ?_
       refine AW.region ?_
       refine AL.rm ?_
       refine AL.r (rd_bin rfl rfl rfl (fun _ => rfl)) ?_
       refine AL.nil ?_
       change AW _ _ _ _ _
       refine AW.cd rfl (fun h33 => ?_) (fun h33 => ?_)
       ·skip
        exact (h33 trivial).elim
       ·skip
        refine AW.skip ?_
        change AW _ _ _ _ _
        refine AW.seq ?_
        refine AW.region ?_
        have hry : rightL y = true := (by rw [hy]; exact inv_right hr)
        have hsy : y.Small := hy ▸ hs.inv
        refine AL.r (rd_loadN_bx rfl ag_95 rfl rfl (Nat.le_of_ble_eq_true rfl) rfl) ?_
        refine AL.op rfl (AOpB.op (op_call (binv_t y hsy hry) rfl (by kernel_rfl) rfl (none) ?_))
        rintro r ⟨w2, hw, rfl⟩
        refine AL.n ?_
        refine AL.rm ?_
        refine AL.r (rd_extract rfl rfl rfl) ?_
        refine AL.r (rd_extract rfl rfl rfl) ?_
        refine AL.op rfl (AOpB.op (op_alloc 3 rfl ze_95 rfl ?_))
        refine AL.n ?_
        refine AL.op rfl (op_store_ rfl rfl rfl rfl rfl sz_95 ?_)
        refine AL.b ?_
        refine AL.ra ?_
        refine AL.nil ?_
        change AW _ _ _ _ _
        refine AW.seq ?_
        refine AW.region ?_
        refine AL.r (rd_loadN_bx rfl ag_95 rfl rfl (Nat.le_of_ble_eq_true rfl) rfl) ?_
        refine AL.op rfl (AOpB.op (op_call (lright_c y) rfl (by kernel_rfl) rfl (none) ?_))
        rintro r rfl
        refine AL.n ?_
        refine AL.rm ?_
        refine AL.fk (d := 41) rfl (fun h41 => ?_) (fun h41 => ?_)
        ·skip
         refine AL.n ?_
         refine AL.ro (rd_move rfl rfl) ?_
         refine AL.ro (rd_bin rfl rfl rfl (fun _ => rfl)) ?_
         refine AL.r (rd_pick_t rfl rfl rfl) ?_
         refine AL.rm ?_
         refine AL.fk (d := 45) rfl (fun h45 => ?_) (fun h45 => ?_)
         ·skip
          refine AL.n ?_
          refine AL.ro (rd_loadN_bx rfl ag_95 rfl rfl (Nat.le_of_ble_eq_true rfl) rfl) ?_
          refine AL.ro (rd_loadN_bx rfl ag_95 rfl rfl (Nat.le_of_ble_eq_true rfl) rfl) ?_
          refine AL.on rfl rfl rfl (AOpB.op (op_call (rlsame_c w2 x (hw ▸ hsy.inv)) rfl (by kernel_rfl) rfl (none) ?_))
          rintro r rfl
          refine AL.n ?_
          refine AL.r (rd_pick_t rfl rfl rfl) ?_
          refine AL.ra ?_
          refine AL.nil ?_
          change AW _ _ _ _ _
          refine AW.ret ?_
          change ResA _ _ _ _ _
          refine res1 rfl (ResV.tmp rfl) rfl ?_
          rw [decide_eq_true (show w2 = x by rw [hw, hy, inv_inv hr])]
         ·skip
          exact (h45 trivial).elim
        ·skip
         exact absurd (hry.symm.trans h41) (by decide)
section
variable {H : Type} {enc : TypeId × Value → H} {W : World} {base b0 : Nat} {sp : Nat → Bool} {held : Bool} {r : Reach}
theorem op_Pair : OpT enc Try.prog W base sp held 165 (fun _ : PairD => True) PairD.cs := fun fuel cs x h => by
  obtain ⟨hl, hf⟩ := op_fields Try.underlying165 h
  have hl : cs.length = 2 := hl.trans (by kernel_rfl)
  match cs, hl with
  | [c0, c1], _ =>
    obtain ⟨n0, y0, g0⟩ := hf 0 _ 1 rfl (by kernel_rfl)
    obtain ⟨n1, y1, g1⟩ := hf 1 _ 1 rfl (by kernel_rfl)
    obtain ⟨d0, o0, r0⟩ := op_str Try.underlying9 _ _ _ g0
    obtain ⟨d1, o1, r1⟩ := op_str Try.underlying9 _ _ _ g1
    exact ⟨⟨d0, d1⟩, trivial, r0.app r1⟩
theorem op_Pairs : OpT enc Try.prog W base sp held 93 (fun l : List PairD => l.length ≤ maxLen ∧ ∀ f ∈ l, True) (fun l => [.sl (l.map PairD.cs)]) := op_slice (sz := 2) Try.underlying93 (by kernel_rfl) (by decide) (fun _ => rfl) op_Pair
theorem op_Lens : OpT enc Try.prog W base sp held 95 (fun _ : LensD => True) LensD.cs := fun fuel cs x h => by
  obtain ⟨hl, hf⟩ := op_fields Try.underlying95 h
  have hl : cs.length = 16 := hl.trans (by kernel_rfl)
  match cs, hl with
  | [c0, c1, c2, c3, c4, c5, c6, c7, c8, c9, c10, c11, c12, c13, c14, c15], _ =>
    obtain ⟨n0, y0, g0⟩ := hf 0 _ 1 rfl (by kernel_rfl)
    obtain ⟨n1, y1, g1⟩ := hf 1 _ 3 rfl (by kernel_rfl)
    obtain ⟨n2, y2, g2⟩ := hf 2 _ 1 rfl (by kernel_rfl)
    obtain ⟨n3, y3, g3⟩ := hf 3 _ 1 rfl (by kernel_rfl)
    obtain ⟨n4, y4, g4⟩ := hf 4 _ 1 rfl (by kernel_rfl)
    obtain ⟨n5, y5, g5⟩ := hf 5 _ 7 rfl (by kernel_rfl)
    obtain ⟨n6, y6, g6⟩ := hf 6 _ 1 rfl (by kernel_rfl)
    obtain ⟨n7, y7, g7⟩ := hf 7 _ 1 rfl (by kernel_rfl)
    obtain ⟨d0, o0, r0⟩ := op_int Try.underlying3 _ _ _ g0
    obtain ⟨d1, o1, r1⟩ := op_Ref _ _ _ g1
    obtain ⟨d2, o2, r2⟩ := op_str Try.underlying9 _ _ _ g2
    obtain ⟨d3, o3, r3⟩ := op_str Try.underlying9 _ _ _ g3
    obtain ⟨d4, o4, r4⟩ := op_int Try.underlying2 _ _ _ g4
    obtain ⟨d5, o5, r5⟩ := op_Fld _ _ _ g5
    obtain ⟨d6, o6, r6⟩ := op_Pairs _ _ _ g6
    obtain ⟨d7, o7, r7⟩ := op_Pairs _ _ _ g7
    exact ⟨⟨d0, d1, d2, d3, d4, d5, d6, d7⟩, trivial, r0.app (r1.app (r2.app (r3.app (r4.app (r5.app (r6.app r7))))))⟩
theorem open_Lens {v : Value} {d : DataW H} {p : List MemPlace} (hv : Value.okWide Try.prog W r b0 95 v) (h : DataW.Trod enc Try.prog W base sp held 95 v d p) : ∃ x : LensD, True ∧ RepS AnyB W v x.av := by
  obtain ⟨vs, rfl, _⟩ := okWide_struct Try.underlying95 hv
  exact op_Lens.agg h
end
theorem walk_BackInverse (w : World) (v0 : Value) (x0 : LensD) (rp0 : RepS AnyB w v0 x0.av) :
    Calls Try.prog 12 #[v0] w fun e w' => e = .returned (.bool true) ∧ Below w.heap.size w w' :=
  (inverse_c x0).law (vs := [v0]) rfl (rep_cons rp0 rep_nil)
end Go.Proofs.Ytfjnkhanndkpfaa
