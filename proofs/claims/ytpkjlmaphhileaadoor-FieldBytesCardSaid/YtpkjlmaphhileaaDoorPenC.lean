/- The pen's reader, walked over abstract states: flags, tags, places, a new one. Conditions: readers of fewer than 2^40 bytes, at a place within them. -/
import Derived.Test.YtpkjlmaphhileaaDoorPenB
namespace Go.Proofs.YtpkjlmaphhileaaDoor
set_option linter.unusedSimpArgs false
set_option linter.unusedVariables false
set_option maxRecDepth 100000
set_option maxRecDepth 100000
open Go.RowKit

/-- The same bytes, in the same format. -/
structure RdrD.Of (r s : RdrD) : Prop where
  ok : s.Ok
  b : s.b = r.b
  f : s.f = r.f
theorem RdrD.Of.trans {r s t : RdrD} (h : r.Of s) (k : s.Of t) : r.Of t := ⟨k.ok, k.b.trans h.b, k.f.trans h.f⟩
theorem RdrD.Ok.of {r : RdrD} (h : r.Ok) : r.Of r := ⟨h, rfl, rfl⟩
theorem RdrD.Ok.spoil {r : RdrD} (h : r.Ok) : r.Of (spoilP r) := ⟨⟨h.len, h.lo, h.hi⟩, rfl, rfl⟩
theorem RdrD.Ok.num {r : RdrD} (h : r.Ok) : r.Of (numP r).2 := ⟨(numP_ok h).1, (numP_ok h).2.1, (numP_ok h).2.2.1⟩
theorem RdrD.Ok.count {r : RdrD} (h : r.Ok) (most : Int) : r.Of (countP r most).2 := by
  unfold countP
  split
  · exact h.num.trans h.num.ok.spoil
  · exact h.num
theorem RdrD.Ok.text {r : RdrD} (h : r.Ok) (most : Int) : r.Of (rtextP r most).2 := by
  obtain ⟨a, b, c, d⟩ := textR_ok h most
  unfold rtextP
  cases hb : badP (textR r most) with
  | true => rw [if_pos rfl]; exact ⟨a, b, c⟩
  | false =>
    rw [if_neg (by decide)]
    obtain ⟨d1, d2, d3⟩ := d hb
    have := a.lo
    exact ⟨⟨a.len, by simp only []; omega, by simp only [b]; exact d3⟩, b, c⟩
theorem left_some {r : RdrD} (h : r.Ok) (h1 : 1 ≤ leftP r) : ∃ c, r.b[r.at_.toNat]? = some c ∧ r.at_.toNat < r.b.length ∧ badP r = false := by
  have := h.lo
  unfold leftP at h1
  split at h1
  · omega
  · rename_i h2
    exact ⟨_, List.getElem?_eq_getElem (by omega), by omega, by simpa using h2⟩
theorem get_byA {l : List UInt8} {n : Nat} {c : UInt8} (h : l[n]? = some c) : (byA l)[n]? = some [.sc (bv c)] := by unfold byA; rw [List.getElem?_map, h]; rfl
theorem flag_bad {r : RdrD} (h : r.Ok) (h1 : leftP r < 1 ∨ ∃ c, r.b[r.at_.toNat]? = some c ∧ 1 < c.toNat) : rflagP r = (false, spoilP r) := by
  unfold rflagP
  split
  · rfl
  · rcases h1 with h1 | ⟨c, hc, h2⟩
    · contradiction
    · rw [hc]; simp only []; rw [if_pos h2]
theorem flag_good {r : RdrD} {c : UInt8} (h1 : ¬ leftP r < 1) (hc : r.b[r.at_.toNat]? = some c) (h2 : ¬ 1 < c.toNat) : rflagP r = (c.toNat == 1, { r with at_ := r.at_ + 1 }) := by
  unfold rflagP
  rw [if_neg h1, hc]; simp only []; rw [if_neg h2]
theorem u8_one (c : UInt8) : (((c.toNat : Nat) : Int) == 1) = (c.toNat == 1) := by
  by_cases h : c.toNat = 1
  · simp [h]
  · have : ¬ ((c.toNat : Nat) : Int) = 1 := by omega
    rw [beq_eq_false_iff_ne.2 this, beq_eq_false_iff_ne.2 h]
theorem RdrD.Ok.flag {r : RdrD} (h : r.Ok) : r.Of (rflagP r).2 := by
  have h0 := h.lo
  unfold rflagP
  split
  · exact h.spoil
  · rename_i h1
    obtain ⟨c, hc, hl, _⟩ := left_some h (by omega)
    rw [hc]
    simp only []
    split
    · exact h.spoil
    · exact ⟨⟨h.len, by simp only []; omega, by simp only []; omega⟩, rfl, rfl⟩
theorem RdrD.Ok.tag {r : RdrD} (h : r.Ok) : r.Of (rtagP r).2 := by
  have := h.num.trans h.num.ok.num
  unfold rtagP
  split <;> exact this
theorem RdrD.Ok.ref {r : RdrD} (h : r.Ok) : r.Of (rrefP r).2 := by
  have := (h.num.trans (h.num.ok.text 12)).trans ((h.num.ok.text 12).ok.text 12)
  unfold rrefP
  split <;> exact this
section
variable (g : Nat) (r : RdrD)
theorem rdref_c (h : r.Ok) : ACo Tryd.prog 44 [.bx 0 g 0] (RdrT g r) (fun y os' => y = (rrefP r).1.av ∧ os' = RdrT g (rrefP r).2) := by
  refine ACo.of' (st0 := [⟨g, .box 69 [.sl (byA r.b), .sc (.int .i64 r.f), .sc (.int .i64 r.at_), .sc (.bool r.bad)]⟩, TK.mk 0 .off, TK.mk 0 .off]) 16 2 Tryd.func44 rfl 1 ?_
  refine AW.seq ?_
  refine AW.region ?_
  refine AL.op rfl (AOpB.op (op_alloc 1 rfl ze_23 rfl ?_))
  refine AL.no ?_
  refine AL.nil ?_
  change AW _ _ _ _ _
  refine AW.seq ?_
  refine AW.region ?_
  refine AL.op rfl (AOpB.op (op_alloc 2 rfl ze_23 rfl ?_))
  refine AL.no ?_
  refine AL.nil ?_
  change AW _ _ _ _ _
  refine AW.seq ?_
  refine AW.region ?_
  refine AL.rm ?_
  refine AL.op rfl (calloR (rnum_c g r h) [0] ?_)
  rintro y os' ⟨rfl, rfl⟩
  refine AL.noR ?_
  refine AL.r (rd_faddr_bx rfl fo_23_0 rfl rfl ⟨_, _, rfl⟩) ?_
  refine AL.op rfl (op_store_ rfl rfl rfl rfl rfl sz_3 ?_)
  refine AL.no ?_
  refine AL.nil ?_
  change AW _ _ _ _ _
  refine AW.seq ?_
  refine AW.region ?_
  refine AL.rm ?_
  refine AL.op rfl (calloR (rtext_c g (numP r).2 h.num.ok 12) [0] ?_)
  rintro y os' ⟨rfl, rfl⟩
  refine AL.noR ?_
  refine AL.r (rd_faddr_bx rfl fo_23_1 rfl rfl ⟨_, _, rfl⟩) ?_
  refine AL.op rfl (op_store_ rfl rfl rfl rfl rfl sz_9 ?_)
  refine AL.no ?_
  refine AL.nil ?_
  change AW _ _ _ _ _
  refine AW.seq ?_
  refine AW.region ?_
  refine AL.rm ?_
  refine AL.op rfl (calloR (rtext_c g (rtextP (numP r).2 12).2 (h.num.ok.text 12).ok 12) [0] ?_)
  rintro y os' ⟨rfl, rfl⟩
  refine AL.noR ?_
  refine AL.r (rd_faddr_bx rfl fo_23_2 rfl rfl ⟨_, _, rfl⟩) ?_
  refine AL.op rfl (op_store_ rfl rfl rfl rfl rfl sz_9 ?_)
  refine AL.no ?_
  refine AL.nil ?_
  change AW _ _ _ _ _
  refine AW.seq ?_
  refine AW.seq ?_
  refine AW.region ?_
  refine AL.rm ?_
  refine AL.op rfl (calloR (rbad_c g (rtextP (rtextP (numP r).2 12).2 12).2) [0] ?_)
  rintro y os' ⟨rfl, rfl⟩
  refine AL.noR ?_
  refine AL.nil ?_
  change AW _ _ _ _ _
  refine AW.cd rfl (fun h14 => ?_) (fun h14 => ?_)
  ·skip
   refine AW.seq ?_
   refine AW.region ?_
   refine AL.r (rd_build rfl pl_23 ze_23 rfl rfl) ?_
   refine AL.op rfl (op_store_ rfl rfl rfl rfl rfl sz_23 ?_)
   refine AL.no ?_
   refine AL.nil ?_
   change AW _ _ _ _ _
   refine AW.ret ?_
   repeat with_reducible first | refine thenA_ret ?_ | refine inBlockA_ret ?_
   with_reducible first | refine retO_ret ?_ | refine retO_normal ?_
   refine reso1R rfl (ResV.cells rfl rfl ag_23 (Nat.le_of_ble_eq_true rfl) rfl) rfl ?_
   simp_all [rrefP, RdrT, RefD.cs]
  ·skip
   refine AW.skip ?_
   change AW _ _ _ _ _
   refine AW.seq ?_
   refine AW.region ?_
   refine AL.r (rd_loadN_bx rfl ag_23 rfl rfl (Nat.le_of_ble_eq_true rfl) rfl) ?_
   refine AL.op rfl (op_store_ rfl rfl rfl rfl rfl sz_23 ?_)
   refine AL.no ?_
   refine AL.nil ?_
   change AW _ _ _ _ _
   refine AW.ret ?_
   repeat with_reducible first | refine thenA_ret ?_ | refine inBlockA_ret ?_
   with_reducible first | refine retO_ret ?_ | refine retO_normal ?_
   refine reso1R rfl (ResV.cells rfl rfl ag_23 (Nat.le_of_ble_eq_true rfl) rfl) rfl ?_
   simp_all [rrefP, RdrT, RefD.cs]
end
def newR (b : List UInt8) (f : Int) : RdrD := ⟨b, f, 0, !okF f⟩
theorem newR_ok {b : List UInt8} (hb : b.length ≤ 549755813888) (f : Int) : (newR b f).Ok := ⟨by simp only [newR]; omega, Int.le_refl _, by simp only [newR]; omega⟩
theorem rnew_c (b : List UInt8) (hb : b.length ≤ 549755813888) (f : Int) (h : Nat) : ACo Tryd.prog 26 [.sl (byA b), .sc (.int .i64 f)] [⟨h, .off⟩] (fun y os' => y = .bx 0 (h + 1) 0 ∧ os' = RdrT (h + 1) (newR b f)) := by
  refine ACo.of' (st0 := [⟨h, .off⟩, TK.mk 0 .off]) 11 1 Tryd.func26 rfl 1 ?_
  refine AW.seq ?_
  refine AW.region ?_
  refine AL.ra ?_
  refine AL.nil ?_
  change AW _ _ _ _ _
  refine AW.seq ?_
  refine AW.region ?_
  refine AL.rm ?_
  refine AL.op rfl (AOpB.op (op_call (join_c b [] (by omega) (by simp)) rfl (by kernel_rfl) rfl (none) ?_))
  rintro r rfl
  refine AL.no ?_
  rw [List.append_nil]
  refine AL.rm ?_
  refine AL.rm ?_
  refine AL.op rfl (AOpB.op (op_call (cright_c f) rfl (by kernel_rfl) rfl (none) ?_))
  rintro r rfl
  refine AL.no ?_
  refine AL.r (rd_un rfl rfl (fun _ => rfl)) ?_
  refine AL.r (rd_build rfl pl_69 ze_69 rfl rfl) ?_
  refine AL.op rfl (AOpB.op (op_box 0 rfl rfl rfl rfl rfl ?_))
  refine AL.no ?_
  refine AL.ra ?_
  refine AL.nil ?_
  change AW _ _ _ _ _
  refine AW.ret ?_
  repeat with_reducible first | refine thenA_ret ?_ | refine inBlockA_ret ?_
  with_reducible first | refine retO_ret ?_ | refine retO_normal ?_
  refine reso1R rfl (ResV.tmp rfl) (resO_bx (by decide) rfl) ?_
  exact ⟨rfl, rfl⟩
def flagB (x : Bool) : List UInt8 := [if x then 1 else 0]
end Go.Proofs.YtpkjlmaphhileaaDoor
