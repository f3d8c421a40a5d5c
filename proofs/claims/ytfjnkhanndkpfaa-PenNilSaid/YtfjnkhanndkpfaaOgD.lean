/- Openers: ops with numbers in their ranges as arguments; the law OpFormats, walked. No conditions. -/
import Derived.Test.YtfjnkhanndkpfaaOgC
import Derived.Test.YtfjnkhanndkpfaaOpH
namespace Go.Proofs.Ytfjnkhanndkpfaa
set_option linter.unusedSimpArgs false
set_option linter.unusedVariables false
set_option maxRecDepth 100000
open Go.RowKit Go.ChangeShapes Go.WideShapes Go.ChangeAt Go.Deep

theorem i64R_of {n : Int} (h : (Lit.int .i64 n).wf = true) : i64R n := by have := bounds_i64 h; unfold i64R; omega
section
variable {H : Type} {enc : TypeId × Value → H} {W : World} {base b0 : Nat} {sp : Nat → Bool} {held : Bool} {r : Reach}
theorem op_TagW : OpT enc Try.prog W base sp held 44 (fun t : TagD => i64R t.rep ∧ i64R t.n) TagD.cs := fun fuel cs x h => by
  obtain ⟨hl, hf⟩ := op_fields Try.underlying44 h
  have hl : cs.length = 2 := hl.trans (by kernel_rfl)
  match cs, hl with
  | [c0, c1], _ =>
    obtain ⟨n0, y0, g0⟩ := hf 0 _ 1 rfl (by kernel_rfl)
    obtain ⟨n1, y1, g1⟩ := hf 1 _ 1 rfl (by kernel_rfl)
    obtain ⟨d0, o0, r0⟩ := op_int Try.underlying3 _ _ _ g0
    obtain ⟨d1, o1, r1⟩ := op_int Try.underlying3 _ _ _ g1
    exact ⟨⟨d0, d1⟩, ⟨i64R_of o0, i64R_of o1⟩, (r0.app r1)⟩
theorem op_TagsW : OpT enc Try.prog W base sp held 45 (fun l : List TagD => l.length ≤ maxLen ∧ ∀ f ∈ l, i64R f.rep ∧ i64R f.n) (fun l => [.sl (l.map TagD.cs)]) := op_slice (sz := 2) Try.underlying45 (by kernel_rfl) (by decide) (fun _ => rfl) op_TagW
theorem op_OpW : OpT enc Try.prog W base sp held 47 OpD.Wf OpD.cs := fun fuel cs x h => by
  obtain ⟨hl, hf⟩ := op_fields Try.underlying47 h
  have hl : cs.length = 15 := hl.trans (by kernel_rfl)
  match cs, hl with
  | [c0, c1, c2, c3, c4, c5, c6, c7, c8, c9, c10, c11, c12, c13, c14], _ =>
    obtain ⟨n0, y0, g0⟩ := hf 0 _ 2 rfl (by kernel_rfl)
    obtain ⟨n1, y1, g1⟩ := hf 1 _ 2 rfl (by kernel_rfl)
    obtain ⟨n2, y2, g2⟩ := hf 2 _ 1 rfl (by kernel_rfl)
    obtain ⟨n3, y3, g3⟩ := hf 3 _ 1 rfl (by kernel_rfl)
    obtain ⟨n4, y4, g4⟩ := hf 4 _ 1 rfl (by kernel_rfl)
    obtain ⟨n5, y5, g5⟩ := hf 5 _ 1 rfl (by kernel_rfl)
    obtain ⟨n6, y6, g6⟩ := hf 6 _ 3 rfl (by kernel_rfl)
    obtain ⟨n7, y7, g7⟩ := hf 7 _ 1 rfl (by kernel_rfl)
    obtain ⟨n8, y8, g8⟩ := hf 8 _ 1 rfl (by kernel_rfl)
    obtain ⟨n9, y9, g9⟩ := hf 9 _ 1 rfl (by kernel_rfl)
    obtain ⟨n10, y10, g10⟩ := hf 10 _ 1 rfl (by kernel_rfl)
    obtain ⟨d0, o0, r0⟩ := op_TagW _ _ _ g0
    obtain ⟨d1, o1, r1⟩ := op_TagW _ _ _ g1
    obtain ⟨d2, o2, r2⟩ := op_int Try.underlying2 _ _ _ g2
    obtain ⟨d3, o3, r3⟩ := op_str Try.underlying9 _ _ _ g3
    obtain ⟨d4, o4, r4⟩ := op_int Try.underlying3 _ _ _ g4
    obtain ⟨d5, o5, r5⟩ := op_str Try.underlying9 _ _ _ g5
    obtain ⟨d6, o6, r6⟩ := op_Ref _ _ _ g6
    obtain ⟨d7, o7, r7⟩ := op_int Try.underlying2 _ _ _ g7
    obtain ⟨d8, o8, r8⟩ := op_bool Try.underlying4 _ _ _ g8
    obtain ⟨d9, o9, r9⟩ := op_str Try.underlying9 _ _ _ g9
    obtain ⟨d10, o10, r10⟩ := op_TagsW _ _ _ g10
    exact ⟨⟨d0, d1, d2, d3, d4, d5, d6, d7, d8, d9, d10⟩, ⟨o0.1, o0.2, o1.1, o1.2, i64R_of o2, i64R_of o4, i64R_of o6.1, i64R_of o7, o10.2⟩, (r0.app (r1.app (r2.app (r3.app (r4.app (r5.app (r6.app (r7.app (r8.app (r9.app r10))))))))))⟩
theorem open_OpW {v : Value} {d : DataW H} {p : List MemPlace} (hv : Value.okWide Try.prog W r b0 47 v) (h : DataW.Trod enc Try.prog W base sp held 47 v d p) : ∃ x : OpD, x.Wf ∧ RepS AnyB W v x.av := by
  obtain ⟨vs, rfl, _⟩ := okWide_struct Try.underlying47 hv
  exact op_OpW.agg h
end
theorem putO_len {f : Int} {o : OpD} (h : o.Light) : (putO f o).length ≤ 6000 := by
  have := po12_len (f := f) h o.drops.length
  have := h.drops
  unfold putO; omega
def gotO (o : OpD) : OpD := if rightO o then o else zeroO
theorem got_put {f : Int} {o : OpD} (hf : okF f = true) (hw : o.Wf) (hl : o.Light) : (getO (newR (putO f o) f)).1 = gotO o := by
  obtain ⟨a, b⟩ := get_put hf hw hl []
  rw [List.append_nil] at a b
  unfold gotO
  cases h : rightO o with
  | true => exact (a h).1
  | false => exact b h
theorem oput_n (f : Int) (o : OpD) (hf : i64R f) (h : okF f = true) (hw : o.Wf) (hl : o.Light) : AC Try.prog 68 [.sl (byA []), .sc (.int .i64 f), o.av] (fun r => r = .s (.sl (byA (putO f o)))) := by
  have := oput_c [] f o (by simp) hf hw hl
  rwa [if_pos h, List.nil_append] at this
theorem oget_n (g : Nat) (f : Int) (o : OpD) (h : okF f = true) (hw : o.Wf) (hl : o.Light) : ACo Try.prog 67 [.bx 0 g 0] (RdrT g (newR (putO f o) f)) (fun y os' => ∃ x : OpD, x = gotO o ∧ y = .ag [AI x.id.rep, AI x.id.n, AI x.schema.rep, AI x.schema.n, AI x.time, AS x.cart, AI x.kind, AS x.item, AI x.at_.scope, AS x.at_.group, AS x.at_.name, AI x.delta, AB x.has, AS x.text, .sl (x.drops.map TagD.cs)] ∧ os' = RdrT g (getO (newR (putO f o) f)).2) :=
  (oget_c g (newR (putO f o) f) (newR_ok (by have := putO_len (f := f) hl; omega) f)).mono fun y os' ⟨a, b⟩ => ⟨_, got_put h hw hl, a, b⟩
theorem formats_c (o : OpD) (hw : o.Wf) : AC Try.prog 13 [o.av] (fun r => r = .s (AB true)) := by
  change AC _ _ [.ag [AI o.id.rep, AI o.id.n, AI o.schema.rep, AI o.schema.n, AI o.time, AS o.cart, AI o.kind, AS o.item, AI o.at_.scope, AS o.at_.group, AS o.at_.name, AI o.delta, AB o.has, AS o.text, .sl (o.drops.map TagD.cs)]] _
  refine AC.of' 29 5 Try.func13 rfl ?_
  change AW _ _ _ _ [TK.mk 0 .off, TK.mk 0 .off, TK.mk 0 .off, TK.mk 0 .off, TK.mk 0 .off]
  refine AW.seq ?_
  refine AW.region ?_
  refine AL.op rfl (AOpB.op (op_box 2 rfl rfl rfl rfl rfl ?_))
  refine AL.no ?_
  refine AL.ra ?_
  refine AL.nil ?_
  change AW _ _ _ _ _
  refine AW.seq ?_
  refine AW.seq ?_
  refine AW.region ?_
  refine AL.op rfl (AOpB.op (op_call (awake20) rfl (by kernel_rfl) rfl (none) ?_))
  rintro r rfl
  refine AL.no ?_
  refine AL.r (rd_un rfl rfl (fun _ => rfl)) ?_
  refine AL.nil ?_
  change AW _ _ _ _ _
  refine AW.cond_f rfl ?_
  refine AW.skip ?_
  change AW _ _ _ _ _
  refine AW.seq ?_
  refine AW.seq ?_
  refine AW.region ?_
  refine AL.r (rd_loadN_bx rfl ag_47 rfl rfl (Nat.le_of_ble_eq_true rfl) rfl) ?_
  refine AL.op rfl (AOpB.op (op_call (oheavy_c o) rfl (by kernel_rfl) rfl (none) ?_))
  rintro r rfl
  refine AL.no ?_
  refine AL.nil ?_
  change AW _ _ _ _ _
  refine AW.cd rfl (fun h8 => ?_) (fun h8 => ?_)
  ·skip
   refine AW.seq ?_
   refine AW.region ?_
   refine AL.ra ?_
   refine AL.nil ?_
   change AW _ _ _ _ _
   refine AW.ret ?_
   change ResA _ _ _ _ _
   refine res1 rfl (ResV.tmp rfl) rfl ?_
   rfl
  ·skip
   refine AW.skip ?_
   change AW _ _ _ _ _
   refine AW.seq ?_
   refine AW.region ?_
   have hl := heavyO_light h8
   refine AL.r (rd_loadN_bx rfl ag_47 rfl rfl (Nat.le_of_ble_eq_true rfl) rfl) ?_
   refine AL.op rfl (AOpB.op (op_call (oput_n 1 o (by unfold i64R; omega) (by decide) hw hl) rfl (by kernel_rfl) rfl (none) ?_))
   rintro r rfl
   refine AL.no ?_
   refine AL.op rfl (calloR (rnew_c (putO 1 o) (by have := putO_len (f := 1) hl; omega) 1 0) [0] ?_)
   rintro y os' ⟨rfl, rfl⟩
   refine AL.noR ?_
   refine AL.op rfl (calloR (oget_n 1 1 o (by decide) hw hl) [0] ?_)
   rintro y os' ⟨x1, hx1, rfl, rfl⟩
   refine AL.noR ?_
   refine AL.op rfl (AOpB.op (op_alloc 3 rfl ze_47 rfl ?_))
   refine AL.no ?_
   refine AL.op rfl (op_store_ rfl rfl rfl rfl rfl sz_47 ?_)
   refine AL.no ?_
   refine AL.nil ?_
   change AW _ _ _ _ _
   refine AW.seq ?_
   refine AW.region ?_
   refine AL.r (rd_loadN_bx rfl ag_47 rfl rfl (Nat.le_of_ble_eq_true rfl) rfl) ?_
   refine AL.op rfl (AOpB.op (op_call (oput_n 2 o (by unfold i64R; omega) (by decide) hw hl) rfl (by kernel_rfl) rfl (none) ?_))
   rintro r rfl
   refine AL.no ?_
   refine AL.op rfl (calloR (rnew_c (putO 2 o) (by have := putO_len (f := 2) hl; omega) 2 0) [1] ?_)
   rintro y os' ⟨rfl, rfl⟩
   refine AL.noR ?_
   refine AL.op rfl (calloR (oget_n 1 2 o (by decide) hw hl) [1] ?_)
   rintro y os' ⟨x2, hx2, rfl, rfl⟩
   refine AL.noR ?_
   refine AL.op rfl (AOpB.op (op_alloc 4 rfl ze_47 rfl ?_))
   refine AL.no ?_
   refine AL.op rfl (op_store_ rfl rfl rfl rfl rfl sz_47 ?_)
   refine AL.no ?_
   refine AL.nil ?_
   change AW _ _ _ _ _
   refine AW.seq ?_
   refine AW.region ?_
   refine AL.r (rd_loadN_bx rfl ag_47 rfl rfl (Nat.le_of_ble_eq_true rfl) rfl) ?_
   refine AL.r (rd_loadN_bx rfl ag_47 rfl rfl (Nat.le_of_ble_eq_true rfl) rfl) ?_
   refine AL.op rfl (AOpB.op (op_call (osame_c x1 x2) rfl (by kernel_rfl) rfl (none) ?_))
   rintro r rfl
   refine AL.no ?_
   refine AL.rm ?_
   refine AL.fk (d := 20) rfl (fun h20 => ?_) (fun h20 => ?_)
   ·skip
    refine AL.n ?_
    refine AL.ro (rd_loadN_bx rfl ag_47 rfl rfl (Nat.le_of_ble_eq_true rfl) rfl) ?_
    refine AL.on rfl rfl rfl (AOpB.op (op_call (oright_g o) rfl (by kernel_rfl) rfl (none) ?_))
    rintro r rfl
    refine AL.no ?_
    refine AL.ro (rd_un rfl rfl (fun _ => rfl)) ?_
    refine AL.ro (rd_move rfl rfl) ?_
    refine AL.fk (d := 24) rfl (fun h24 => ?_) (fun h24 => ?_)
    ·skip
     refine AL.n ?_
     refine AL.rf ?_
     refine AL.rf ?_
     refine AL.rf ?_
     refine AL.ro (rd_pick_t rfl rfl rfl) ?_
     refine AL.r (rd_pick_t rfl rfl rfl) ?_
     refine AL.ra ?_
     refine AL.nil ?_
     change AW _ _ _ _ _
     refine AW.ret ?_
     change ResA _ _ _ _ _
     refine res1 rfl (ResV.tmp rfl) rfl ?_
     subst hx1; subst hx2
     simp_all [gotO]
    ·skip
     refine AL.n ?_
     refine AL.ro (rd_loadN_bx rfl ag_47 rfl rfl (Nat.le_of_ble_eq_true rfl) rfl) ?_
     refine AL.ro (rd_loadN_bx rfl ag_47 rfl rfl (Nat.le_of_ble_eq_true rfl) rfl) ?_
     refine AL.on rfl rfl rfl (AOpB.op (op_call (osame_c x1 o) rfl (by kernel_rfl) rfl (none) ?_))
     rintro r rfl
     refine AL.no ?_
     refine AL.ro (rd_pick_f rfl rfl rfl) ?_
     refine AL.r (rd_pick_t rfl rfl rfl) ?_
     refine AL.ra ?_
     refine AL.nil ?_
     change AW _ _ _ _ _
     refine AW.ret ?_
     change ResA _ _ _ _ _
     refine res1 rfl (ResV.tmp rfl) rfl ?_
     subst hx1; subst hx2
     simp_all [gotO]
   ·skip
    refine AL.n ?_
    refine AL.rf ?_
    refine AL.rf ?_
    refine AL.rf ?_
    refine AL.rf ?_
    refine AL.ru ?_
    refine AL.ru ?_
    refine AL.ru ?_
    refine AL.rf ?_
    refine AL.r (rd_pick_f rfl rfl rfl) ?_
    refine AL.ra ?_
    refine AL.nil ?_
    change AW _ _ _ _ _
    refine AW.ret ?_
    change ResA _ _ _ _ _
    refine res1 rfl (ResV.tmp rfl) rfl ?_
    subst hx1; subst hx2
    simp_all [gotO]
theorem walk_OpFormats (w : World) (v0 : Value) (o0 : OpD) (ow0 : o0.Wf) (rp0 : RepS AnyB w v0 o0.av) :
    Calls Try.prog 13 #[v0] w fun e w' => e = .returned (.bool true) ∧ Below w.heap.size w w' :=
  (formats_c o0 ow0).law (vs := [v0]) rfl (rep_cons rp0 rep_nil)
end Go.Proofs.Ytfjnkhanndkpfaa
