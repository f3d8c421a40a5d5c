/- The law OpOrders, walked over abstract states; ops as arguments. No conditions. -/
import Derived.Test.YtfjnkhanndkpfaaOpG
namespace Go.Proofs.Ytfjnkhanndkpfaa
set_option linter.unusedSimpArgs false
set_option linter.unusedVariables false
set_option maxRecDepth 100000
open Go.RowKit Go.ChangeShapes Go.WideShapes Go.ChangeAt Go.Deep

section
variable {H : Type} {enc : TypeId × Value → H} {W : World} {base b0 : Nat} {sp : Nat → Bool} {held : Bool} {r : Reach}
theorem op_Tag : OpT enc Try.prog W base sp held 44 (fun _ : TagD => True) TagD.cs := fun fuel cs x h => by
  obtain ⟨hl, hf⟩ := op_fields Try.underlying44 h
  have hl : cs.length = 2 := hl.trans (by kernel_rfl)
  match cs, hl with
  | [c0, c1], _ =>
    obtain ⟨n0, y0, g0⟩ := hf 0 _ 1 rfl (by kernel_rfl)
    obtain ⟨n1, y1, g1⟩ := hf 1 _ 1 rfl (by kernel_rfl)
    obtain ⟨d0, o0, r0⟩ := op_int Try.underlying3 _ _ _ g0
    obtain ⟨d1, o1, r1⟩ := op_int Try.underlying3 _ _ _ g1
    exact ⟨⟨d0, d1⟩, trivial, (r0.app r1)⟩
theorem op_Tags : OpT enc Try.prog W base sp held 45 (fun l : List TagD => l.length ≤ maxLen ∧ ∀ f ∈ l, True) (fun l => [.sl (l.map TagD.cs)]) := op_slice (sz := 2) Try.underlying45 (by kernel_rfl) (by decide) (fun _ => rfl) op_Tag
theorem op_Op : OpT enc Try.prog W base sp held 47 (fun _ : OpD => True) OpD.cs := fun fuel cs x h => by
  obtain ⟨hl, hf⟩ := op_fields Try.underlying47 h
  have hl : cs.length = 15 := hl.trans (by kernel_rfl)
  match cs, hl with
  | [c0, c1, c2, c3, c4, c5, c6, c7, c8, c9, c10, c11, c12, c13, c14], _ =>
    obtain ⟨n0, y0, g0⟩ := hf 0 _ 2 rfl (by kernel_rfl)
    obtain ⟨n1, y1, g1⟩ := hf 1 _ 2 rfl (by kernel_rfl)
    obtain ⟨n2, y2, g2⟩ := hf 2 _ 1 rfl (by kernel_rfl)
    obtain ⟨n3, y3, g3⟩ := hf 3 _ 1 rfl (by kernel_rfl)
    obtain ⟨n4, y4, g4⟩ := hf 4 _ 1 rfl (by kernel_rfl)
    obtain ⟨n5, y5, g5⟩ := hf 5 _ 1 rfl (by kernel_rfl)
    obtain ⟨n6, y6, g6⟩ := hf 6 _ 3 rfl (by kernel_rfl)
    obtain ⟨n7, y7, g7⟩ := hf 7 _ 1 rfl (by kernel_rfl)
    obtain ⟨n8, y8, g8⟩ := hf 8 _ 1 rfl (by kernel_rfl)
    obtain ⟨n9, y9, g9⟩ := hf 9 _ 1 rfl (by kernel_rfl)
    obtain ⟨n10, y10, g10⟩ := hf 10 _ 1 rfl (by kernel_rfl)
    obtain ⟨d0, o0, r0⟩ := op_Tag _ _ _ g0
    obtain ⟨d1, o1, r1⟩ := op_Tag _ _ _ g1
    obtain ⟨d2, o2, r2⟩ := op_int Try.underlying2 _ _ _ g2
    obtain ⟨d3, o3, r3⟩ := op_str Try.underlying9 _ _ _ g3
    obtain ⟨d4, o4, r4⟩ := op_int Try.underlying3 _ _ _ g4
    obtain ⟨d5, o5, r5⟩ := op_str Try.underlying9 _ _ _ g5
    obtain ⟨d6, o6, r6⟩ := op_Ref _ _ _ g6
    obtain ⟨d7, o7, r7⟩ := op_int Try.underlying2 _ _ _ g7
    obtain ⟨d8, o8, r8⟩ := op_bool Try.underlying4 _ _ _ g8
    obtain ⟨d9, o9, r9⟩ := op_str Try.underlying9 _ _ _ g9
    obtain ⟨d10, o10, r10⟩ := op_Tags _ _ _ g10
    exact ⟨⟨d0, d1, d2, d3, d4, d5, d6, d7, d8, d9, d10⟩, trivial, (r0.app (r1.app (r2.app (r3.app (r4.app (r5.app (r6.app (r7.app (r8.app (r9.app r10))))))))))⟩
theorem open_Op {v : Value} {d : DataW H} {p : List MemPlace} (hv : Value.okWide Try.prog W r b0 47 v) (h : DataW.Trod enc Try.prog W base sp held 47 v d p) : ∃ x : OpD, True ∧ RepS AnyB W v x.av := by
  obtain ⟨vs, rfl, _⟩ := okWide_struct Try.underlying47 hv
  exact op_Op.agg h
end
theorem lessO_iff (a b : OpD) : lessO a b = true ↔ a.time < b.time ∨ (a.time = b.time ∧ (a.id.rep < b.id.rep ∨ (a.id.rep = b.id.rep ∧ a.id.n < b.id.n))) := by
  unfold lessO lessT
  by_cases e : a.time = b.time
  · by_cases g : a.id.rep = b.id.rep
    · simp [e, g]
    · simp [e, g]
  · simp [e]
theorem lessO_asym {a b : OpD} (h : lessO a b = true) (h2 : lessO b a = true) : False := by
  rw [lessO_iff] at h h2; omega
theorem lessO_trans {a b c : OpD} (h : lessO a b = true) (h2 : lessO b c = true) : lessO a c = true := by
  rw [lessO_iff] at h h2 ⊢; omega
theorem lessO_tot {a b : OpD} (hn : ¬ TagD.mk a.id.rep a.id.n = TagD.mk b.id.rep b.id.n) (h : lessO a b = false) (h2 : lessO b a = false) : False := by
  have h := (Bool.not_eq_true _).mpr h
  have h2 := (Bool.not_eq_true _).mpr h2
  rw [lessO_iff] at h h2
  rw [TagD.mk.injEq] at hn
  omega
theorem awake20 : AC Try.prog 66 [] (fun x => x = .s (AB true)) := by
  refine AC.of' 22 2 Try.func66 rfl ?_
  change AW _ _ _ _ [TK.mk 0 .off, TK.mk 0 .off]
  refine AW.seq ?_
  refine AW.region ?_
  refine AL.ra ?_
  refine AL.nil ?_
  change AW _ _ _ _ _
  refine AW.seq ?_
  refine AW.region ?_
  refine AL.r (rd_build rfl pl_44 ze_44 rfl rfl) ?_
  refine AL.r (rd_build rfl pl_27 ze_27 rfl rfl) ?_
  refine AL.r (rd_build rfl pl_47 ze_47 rfl rfl) ?_
  refine AL.op rfl (AOpB.op (op_alloc 0 rfl ze_47 rfl ?_))
  refine AL.n ?_
  refine AL.op rfl (op_store_ rfl rfl rfl rfl rfl sz_47 ?_)
  refine AL.b ?_
  refine AL.nil ?_
  change AW _ _ _ _ _
  refine AW.seq ?_
  refine AW.region ?_
  refine AL.r (rd_loadN_bx rfl ag_47 rfl rfl (Nat.le_of_ble_eq_true rfl) rfl) ?_
  refine AL.op rfl (AOpB.op (op_alloc 1 rfl ze_47 rfl ?_))
  refine AL.n ?_
  refine AL.op rfl (op_store_ rfl rfl rfl rfl rfl sz_47 ?_)
  refine AL.b ?_
  refine AL.nil ?_
  change AW _ _ _ _ _
  refine AW.seq ?_
  refine AW.region ?_
  refine AL.r (rd_faddr_bx rfl fo_47_6 rfl rfl ⟨_, _, rfl⟩) ?_
  refine AL.r (rd_faddr_bx rfl fo_27_2 rfl rfl ⟨_, _, rfl⟩) ?_
  refine AL.op rfl (op_store_ rfl rfl rfl rfl rfl sz_9 ?_)
  refine AL.b ?_
  refine AL.nil ?_
  change AW _ _ _ _ _
  refine AW.seq ?_
  refine AW.draw (by kernel_rfl) ?_
  refine AD.r 1 rfl (rd_loadN_bx rfl ag_47 rfl rfl (Nat.le_of_ble_eq_true rfl) rfl) rfl ?_
  refine AD.move 0 rfl (by kernel_rfl) rfl (op_call (rroot_c) rfl (by kernel_rfl) rfl (none) ?_)
  rintro r rfl
  refine AD.n ?_
  refine AD.move 2 rfl (by kernel_rfl) rfl (op_call (ofits_c [113, 116, 121] (by decide +kernel) (by decide +kernel)) rfl (by kernel_rfl) rfl (none) ?_)
  rintro r rfl
  refine AD.n ?_
  refine AD.r 3 rfl (rd_move rfl rfl) rfl ?_
  refine AD.fk (d := 12) rfl (fun h12 => ?_) (fun h12 => ?_)
  ·skip
   refine AD.n ?_
   refine AD.r 4 rfl (rd_loadN_bx rfl ag_47 rfl rfl (Nat.le_of_ble_eq_true rfl) rfl) ⟨_, _, rfl, rfl, rfl⟩ ?_
   refine AD.move 5 rfl (by kernel_rfl) ⟨_, _, rfl, rfl, rfl⟩ (op_call (oright_c [110, 111, 116, 101] (by decide +kernel)) rfl (by kernel_rfl) rfl (none) ?_)
   rintro r rfl
   refine AD.n ?_
   refine AD.r 6 rfl (rd_pick_t rfl rfl rfl) rfl ?_
   refine AD.r 7 rfl (rd_move rfl rfl) rfl ?_
   refine AD.fk (d := 16) rfl (fun h16 => ?_) (fun h16 => ?_)
   ·skip
    refine AD.n ?_
    refine AD.r 9 rfl (rd_loadN_bx rfl ag_47 rfl rfl (Nat.le_of_ble_eq_true rfl) rfl) ⟨_, _, rfl, rfl, rfl⟩ ?_
    refine AD.move 8 rfl (by kernel_rfl) ⟨_, _, rfl, rfl, rfl⟩ (op_call (rroot_c) rfl (by kernel_rfl) rfl (none) ?_)
    rintro r rfl
    refine AD.n ?_
    refine AD.move 10 rfl (by kernel_rfl) ⟨_, _, rfl, rfl, rfl⟩ (op_call (ofits_c [110, 111, 116, 101] (by decide +kernel) (by decide +kernel)) rfl (by kernel_rfl) rfl (none) ?_)
    rintro r rfl
    refine AD.n ?_
    refine AD.r 11 rfl (rd_un rfl rfl (fun _ => rfl)) ⟨_, _, rfl, rfl, rfl⟩ ?_
    refine AD.r 12 rfl (rd_pick_t rfl rfl rfl) rfl ?_
    refine AD.r 13 rfl (rd_assign rfl rfl) rfl ?_
    refine AD.done (by kernel_rfl) ?_
    change AW _ _ _ _ _
    refine AW.ret ?_
    change ResA _ _ _ _ _
    refine res1 rfl (ResV.tmp rfl) rfl ?_
    (refine congrArg (fun b => RS.s (AB b)) ?_; decide +kernel)
   ·skip
    cases h16
  ·skip
   exact absurd (by decide +kernel) h12
end Go.Proofs.Ytfjnkhanndkpfaa
