/- A part of a proof. -/
import Derived.Test.YtlapcfnmmpbeeaaGreatPO15
set_option linter.unusedSimpArgs false
set_option linter.unusedVariables false
namespace Go.Proofs.YtlapcfnmmpbeeaaGreat
set_option maxRecDepth 100000
set_option maxRecDepth 100000
open Go.RowKit
structure RdrD.Of (r s : RdrD) : Prop where
  ok : s.Ok
  b : s.b = r.b
  f : s.f = r.f
theorem RdrD.Of.trans {r s t : RdrD} (h : r.Of s) (k : s.Of t) : r.Of t := ⟨k.ok, k.b.trans h.b, k.f.trans h.f⟩
theorem RdrD.Ok.of {r : RdrD} (h : r.Ok) : r.Of r := ⟨h, rfl, rfl⟩
theorem RdrD.Ok.spoil {r : RdrD} (h : r.Ok) : r.Of (jCt r) := ⟨⟨h.len, h.lo, h.hi⟩, rfl, rfl⟩
theorem RdrD.Ok.num {r : RdrD} (h : r.Ok) : r.Of (numP r).2 := ⟨(jF4 h).1, (jF4 h).2.1, (jF4 h).2.2.1⟩
theorem RdrD.Ok.count {r : RdrD} (h : r.Ok) (most : Int) : r.Of (jAJ r most).2 := by
  unfold jAJ
  split
  · exact h.num.trans h.num.ok.spoil
  exact h.num
theorem RdrD.Ok.text {r : RdrD} (h : r.Ok) (most : Int) : r.Of (jAH r most).2 := by
  obtain ⟨a, b, c, d⟩ := jKA h most
  unfold jAH
  cases hb : badP (jC2 r most) with
  | true => rw [if_pos rfl]; exact ⟨a, b, c⟩
  | false =>
    rw [if_neg (by decide)]
    obtain ⟨d1, d2, d3⟩ := d hb
    have := a.lo
    exact ⟨⟨a.len, by simp only []; omega, by simp only [b]; exact d3⟩, b, c⟩
theorem jIy {r : RdrD} (h : r.Ok) (h1 : 1 ≤ jEu r) : ∃ c, r.b[r.at_.toNat]? = some c ∧ r.at_.toNat < r.b.length ∧ badP r = false := by
  have := h.lo
  unfold jEu at h1
  split at h1
  · omega
  rename_i h2
  exact ⟨_, List.getElem?_eq_getElem (by omega), by omega, by simpa using h2⟩
theorem jGO {l : List UInt8} {n : Nat} {c : UInt8} (h : l[n]? = some c) : (byA l)[n]? = some [.sc (bv c)] := by unfold byA; rw [List.getElem?_map, h]; rfl
theorem jES {r : RdrD} (h : r.Ok) (h1 : jEu r < 1 ∨ ∃ c, r.b[r.at_.toNat]? = some c ∧ 1 < c.toNat) : jCR r = (false, jCt r) := by
  unfold jCR
  split
  · rfl
  rcases h1 with h1 | ⟨c, hc, h2⟩
  · contradiction
  rw [hc]; simp only []; rw [if_pos h2]
theorem jI3 {r : RdrD} {c : UInt8} (h1 : ¬ jEu r < 1) (hc : r.b[r.at_.toNat]? = some c) (h2 : ¬ 1 < c.toNat) : jCR r = (c.toNat == 1, { r with at_ := r.at_ + 1 }) := by
  unfold jCR
  rw [if_neg h1, hc]; simp only []; rw [if_neg h2]
theorem jLe (c : UInt8) : (((c.toNat : Nat) : Int) == 1) = (c.toNat == 1) := by
  by_cases h : c.toNat = 1
  · simp [h]
  have : ¬ ((c.toNat : Nat) : Int) = 1 := by omega
  rw [beq_eq_false_iff_ne.2 this, beq_eq_false_iff_ne.2 h]
theorem RdrD.Ok.flag {r : RdrD} (h : r.Ok) : r.Of (jCR r).2 := by
  have h0 := h.lo
  unfold jCR
  split
  · exact h.spoil
  rename_i h1
  obtain ⟨c, hc, hl, _⟩ := jIy h (by omega)
  rw [hc]
  simp only []
  split
  · exact h.spoil
  exact ⟨⟨h.len, by simp only []; omega, by simp only []; omega⟩, rfl, rfl⟩
theorem RdrD.Ok.tag {r : RdrD} (h : r.Ok) : r.Of (jBo r).2 := by
  have := h.num.trans h.num.ok.num
  unfold jBo
  split <;> exact this
theorem RdrD.Ok.ref {r : RdrD} (h : r.Ok) : r.Of (jCb r).2 := by
  have := (h.num.trans (h.num.ok.text 12)).trans ((h.num.ok.text 12).ok.text 12)
  unfold jCb
  split <;> exact this
section
variable (g : Nat) (r : RdrD)
theorem rflag_c (h : r.Ok) : ACo Tryz.prog 116 [.bx 0 g 0] (RdrT g r) (fun y os' => y = AB (jCR r).1 ∧ os' = RdrT g (jCR r).2) := by
  have q1 := h.len; have q2 := h.lo; have q3 := h.hi
  have hb := jAd r.b
  obtain ⟨c, hcc⟩ : ∃ c, 1 ≤ jEu r → r.b[r.at_.toNat]? = some c ∧ r.at_.toNat < r.b.length ∧ badP r = false := by
    by_cases h1 : 1 ≤ jEu r
    · obtain ⟨c, hc⟩ := jIy h h1
      exact ⟨c, fun _ => hc⟩
    exact ⟨0, fun h => absurd h h1⟩
  refine ACo.of' (st0 := [⟨g, .box 138 [.sl (byA r.b), .sc (.int .i64 r.f), .sc (.int .i64 r.at_), .sc (.bool r.bad)]⟩]) 40 0 Tryz.func116 rfl 1 ?_; refine AW.g (AL.ra ?_); refine AL.nil (AW.seq (AW.seq (AW.drawA (by kernel_rfl) ?_))); refine ADA.r 0 rfl (ARdP.a (jAr rfl rfl)) rfl ?_; refine ADA.b ?_; refine ADB.mv 1 rfl (jAi (jJX g r h) [0] ?_); rintro y os' ⟨rfl, rfl⟩; refine ADB.noR ?_; refine ADB.r 2 rfl (jEN rfl rfl rfl (fun _ => rfl)) rfl ?_; refine ADB.r 3 rfl (jAr rfl rfl) rfl ?_; refine ADB.fk (d := 7) rfl (fun h7 => ?_) (fun h7 => ?_)
  ·refine ADB.n ?_; refine ADB.s 4 rfl ⟨_, _, rfl, rfl, rfl⟩ ?_; refine ADB.s 5 rfl ⟨_, _, rfl, rfl, rfl⟩ ?_; refine ADB.s 6 rfl ⟨_, _, rfl, rfl, rfl⟩ ?_; refine ADB.s 7 rfl ⟨_, _, rfl, rfl, rfl⟩ ?_; refine ADB.s 8 rfl ⟨_, _, rfl, rfl, rfl⟩ ?_; refine ADB.s 9 rfl ⟨_, _, rfl, rfl, rfl⟩ ?_; refine ADB.s 10 rfl ⟨_, _, rfl, rfl, rfl⟩ ?_; refine ADB.s 11 rfl ⟨_, _, rfl, rfl, rfl⟩ ?_; refine ADB.s 12 rfl ⟨_, _, rfl, rfl, rfl⟩ ?_; refine ADB.s 13 rfl ⟨_, _, rfl, rfl, rfl⟩ ?_; refine ADB.s 14 rfl ⟨_, _, rfl, rfl, rfl⟩ ?_; refine ADB.r 15 rfl (jBr rfl rfl rfl) rfl ?_; refine ADB.done (by kernel_rfl) ?_; change AW _ _ _ _ _; refine AW.cond_t rfl (AW.g (AL.rm ?_)); refine AL.oq (jAi (jBX g r) [0] ?_); rintro y os' ⟨rfl, rfl⟩; refine AL.noR ?_; refine AL.nil (AW.g (AL.ra ?_)); refine AL.nil ?_
   change AW _ _ _ _ _; refine AW.ret ?_
   repeat with_reducible first | refine jAp ?_ | refine jAe ?_
   with_reducible first | refine jAw ?_ | refine jAf ?_
   refine jAY rfl (ResV.tmp rfl) rfl ?_
   first | (rw [jES h (.inl h7)]; exact ⟨rfl, rfl⟩) | (rw [jES h (.inr ⟨c, (hcc (by omega)).1, Int.ofNat_lt.1 h19⟩)]; exact ⟨rfl, rfl⟩)
  refine ADB.n ?_; refine ADB.r 4 rfl (jAr rfl rfl) ⟨_, _, rfl, rfl, rfl⟩ ?_; refine ADB.r 5 rfl (jGJ rfl rfl rfl) ⟨_, _, rfl, rfl, rfl⟩ ?_; refine ADB.r 6 rfl (jAV rfl jE6 rfl rfl ⟨_, _, rfl⟩) ⟨_, _, rfl, rfl, rfl⟩ ?_; refine ADB.r 8 rfl (jAr rfl rfl) ⟨_, _, rfl, rfl, rfl⟩ ?_; refine ADB.r 9 rfl (jGJ rfl rfl rfl) ⟨_, _, rfl, rfl, rfl⟩ ?_; refine ADB.r 10 rfl (jAV rfl jCj rfl rfl ⟨_, _, rfl⟩) ⟨_, _, rfl, rfl, rfl⟩ ?_; refine ADB.all (is := [7, 11]) (by kernel_rfl) (by simp) ?_; intro i hi; simp only [List.mem_cons, List.not_mem_nil, or_false] at hi
  rcases hi with rfl | rfl
  ·refine ⟨_, rfl, ⟨_, _, rfl, rfl, rfl⟩, AOpB.op (ARd.opB (ql jJp) ?_)⟩; refine ADB.n ?_; refine ADB.mv 11 rfl (AOpB.op (ARd.opB (ql ag_3) ?_)); refine ADB.n ?_; refine ADB.r 12 rfl (jAK rfl jAC rfl rfl (Int.toNat_of_nonneg q2).symm (jGO (hcc (by omega)).1) rfl) ⟨_, _, rfl, rfl, rfl⟩ ?_; refine ADB.mv 13 rfl (AOpB.op (ARd.opB (jAl rfl ag_5 rfl rfl) ?_)); refine ADB.n ?_; refine ADB.r 14 rfl (jEN rfl rfl rfl (fun _ => rfl)) ⟨_, _, rfl, rfl, rfl⟩ ?_; refine ADB.r 15 rfl (jDi rfl rfl rfl) rfl ?_; refine ADB.done (by kernel_rfl) ?_; change AW _ _ _ _ _; refine AW.cd rfl (fun h19 => ?_) (fun h19 => ?_)
   ·refine AW.g (AL.rm ?_); refine AL.oq (jAi (jBX g r) [0] ?_); rintro y os' ⟨rfl, rfl⟩; refine AL.noR ?_; refine AL.nil (AW.g (AL.ra ?_)); refine AL.nil (AW.ret ?_)
    repeat with_reducible first | refine jAp ?_ | refine jAe ?_
    with_reducible first | refine jAw ?_ | refine jAf ?_
    refine jAY rfl (ResV.tmp rfl) rfl ?_
    first | (rw [jES h (.inl h7)]; exact ⟨rfl, rfl⟩) | (rw [jES h (.inr ⟨c, (hcc (by omega)).1, Int.ofNat_lt.1 h19⟩)]; exact ⟨rfl, rfl⟩)
   refine AW.skip (AW.seq (AW.draw (by kernel_rfl) ?_)); refine AD.r 0 rfl (jAa rfl rfl) rfl ?_; refine AD.r 1 rfl (jA3 rfl rfl rfl) rfl ?_; refine AD.r 2 rfl (qa jE6) rfl ?_; refine AD.r 3 rfl (ql jJp) rfl ?_; refine AD.r 4 rfl (jAa rfl rfl) rfl ?_; refine AD.r 5 rfl (jA3 rfl rfl rfl) rfl ?_; refine AD.r 6 rfl (qa jCj) rfl ?_; refine AD.r 7 rfl (ql ag_3) rfl ?_; refine AD.r 8 rfl (jAc rfl jAC rfl rfl (Int.toNat_of_nonneg q2).symm (jGO (hcc (by omega)).1) rfl) rfl ?_; refine AD.r 9 rfl (jAl rfl ag_5 rfl rfl) rfl ?_; refine AD.r 10 rfl qb rfl ?_; refine AD.r 11 rfl (jCA rfl rfl) rfl ?_; refine AD.done (by kernel_rfl) ?_; change AW _ _ _ _ _; refine AW.g ?_; obtain ⟨hc, hl, _⟩ := hcc (by omega); refine AL.rm ?_; refine AL.r (jA3 rfl rfl rfl) ?_; refine AL.r (qa jCj) ?_; refine AL.r (ql ag_3) ?_; refine AL.r (jAj rfl rfl rfl (IntWalk.i64_in _ (by omega))) ?_; refine AL.r (jA3 rfl rfl rfl) ?_; refine AL.r (qa jCj) ?_; refine AL.oq (oS sz_3 ?_); refine AL.no ?_; refine AL.nil (AW.g (AL.rm ?_)); refine AL.ra ?_; refine AL.nil (AW.ret ?_)
   repeat with_reducible first | refine jAp ?_ | refine jAe ?_
   with_reducible first | refine jAw ?_ | refine jAf ?_
   refine jAY rfl (ResV.tmp rfl) rfl ?_; rw [jI3 (c := c) (by omega) hc (by omega)]; exact ⟨congrArg AB (jLe c), rfl⟩
  refine ⟨_, rfl, ⟨_, _, rfl, rfl, rfl⟩, AOpB.op (ARd.opB (ql ag_3) ?_)⟩; refine ADB.n ?_; refine ADB.mv 7 rfl (AOpB.op (ARd.opB (ql jJp) ?_)); refine ADB.n ?_; refine ADB.r 12 rfl (jAK rfl jAC rfl rfl (Int.toNat_of_nonneg q2).symm (jGO (hcc (by omega)).1) rfl) ⟨_, _, rfl, rfl, rfl⟩ ?_; refine ADB.mv 13 rfl (AOpB.op (ARd.opB (jAl rfl ag_5 rfl rfl) ?_)); refine ADB.n ?_; refine ADB.r 14 rfl (jEN rfl rfl rfl (fun _ => rfl)) ⟨_, _, rfl, rfl, rfl⟩ ?_; refine ADB.r 15 rfl (jDi rfl rfl rfl) rfl ?_; refine ADB.done (by kernel_rfl) ?_; change AW _ _ _ _ _; refine AW.cd rfl (fun h19 => ?_) (fun h19 => ?_)
  ·refine AW.g (AL.rm ?_); refine AL.oq (jAi (jBX g r) [0] ?_); rintro y os' ⟨rfl, rfl⟩; refine AL.noR ?_; refine AL.nil (AW.g (AL.ra ?_)); refine AL.nil (AW.ret ?_)
   repeat with_reducible first | refine jAp ?_ | refine jAe ?_
   with_reducible first | refine jAw ?_ | refine jAf ?_
   refine jAY rfl (ResV.tmp rfl) rfl ?_
   first | (rw [jES h (.inl h7)]; exact ⟨rfl, rfl⟩) | (rw [jES h (.inr ⟨c, (hcc (by omega)).1, Int.ofNat_lt.1 h19⟩)]; exact ⟨rfl, rfl⟩)
  refine AW.skip (AW.seq (AW.draw (by kernel_rfl) ?_)); refine AD.r 0 rfl (jAa rfl rfl) rfl ?_; refine AD.r 1 rfl (jA3 rfl rfl rfl) rfl ?_; refine AD.r 2 rfl (qa jE6) rfl ?_; refine AD.r 3 rfl (ql jJp) rfl ?_; refine AD.r 4 rfl (jAa rfl rfl) rfl ?_; refine AD.r 5 rfl (jA3 rfl rfl rfl) rfl ?_; refine AD.r 6 rfl (qa jCj) rfl ?_; refine AD.r 7 rfl (ql ag_3) rfl ?_; refine AD.r 8 rfl (jAc rfl jAC rfl rfl (Int.toNat_of_nonneg q2).symm (jGO (hcc (by omega)).1) rfl) rfl ?_; refine AD.r 9 rfl (jAl rfl ag_5 rfl rfl) rfl ?_; refine AD.r 10 rfl qb rfl ?_; refine AD.r 11 rfl (jCA rfl rfl) rfl ?_; refine AD.done (by kernel_rfl) ?_; change AW _ _ _ _ _; refine AW.g ?_; obtain ⟨hc, hl, _⟩ := hcc (by omega); refine AL.rm ?_; refine AL.r (jA3 rfl rfl rfl) ?_; refine AL.r (qa jCj) ?_; refine AL.r (ql ag_3) ?_; refine AL.r (jAj rfl rfl rfl (IntWalk.i64_in _ (by omega))) ?_; refine AL.r (jA3 rfl rfl rfl) ?_; refine AL.r (qa jCj) ?_; refine AL.oq (oS sz_3 ?_); refine AL.no ?_; refine AL.nil (AW.g (AL.rm ?_)); refine AL.ra ?_; refine AL.nil (AW.ret ?_)
  repeat with_reducible first | refine jAp ?_ | refine jAe ?_
  with_reducible first | refine jAw ?_ | refine jAf ?_
  refine jAY rfl (ResV.tmp rfl) rfl ?_; rw [jI3 (c := c) (by omega) hc (by omega)]; exact ⟨congrArg AB (jLe c), rfl⟩
theorem jG1 (h : r.Ok) : ACo Tryz.prog 60 [.bx 0 g 0] (RdrT g r) (fun y os' => y = (jBo r).1.av ∧ os' = RdrT g (jBo r).2) := by
  refine ACo.of' (st0 := [⟨g, .box 138 [.sl (byA r.b), .sc (.int .i64 r.f), .sc (.int .i64 r.at_), .sc (.bool r.bad)]⟩, TK.mk 0 .off, TK.mk 0 .off]) 12 2 Tryz.func60 rfl 1 ?_; refine AW.g (AL.oq (AOpB.op (oA 1 jDZ ?_))); refine AL.no ?_; refine AL.nil (AW.g (AL.rm ?_)); refine AL.oq (jAi (jCB g r h) [0] ?_); rintro y os' ⟨rfl, rfl⟩; refine AL.noR ?_; refine AL.rm ?_; refine AL.oq (jAi (jCB g (numP r).2 h.num.ok) [0] ?_); rintro y os' ⟨rfl, rfl⟩; refine AL.noR ?_; refine AL.r (qB jIv jDZ) ?_; refine AL.oq (AOpB.op (oA 2 jDZ ?_)); refine AL.no ?_; refine AL.oq (oS jF8 ?_); refine AL.no ?_; refine AL.nil (AW.seq (AW.g (AL.rm ?_))); refine AL.oq (jAi (jDB g (numP (numP r).2).2) [0] ?_); rintro y os' ⟨rfl, rfl⟩; refine AL.noR ?_; refine AL.nil (AW.cd rfl (fun h10 => ?_) (fun h10 => ?_))
  ·refine AW.g (AL.r (qB jIv jDZ) ?_); refine AL.oq (oS jF8 ?_); refine AL.no ?_; refine AL.nil (AW.ret ?_)
   repeat with_reducible first | refine jAp ?_ | refine jAe ?_
   with_reducible first | refine jAw ?_ | refine jAf ?_
   refine jAY rfl (ResV.cells rfl rfl jAN (Nat.le_of_ble_eq_true rfl) rfl) rfl ?_; simp_all [jBo, RdrT, TagD.cs]
  refine AW.skip (AW.g (AL.r (qN jAN) ?_)); refine AL.oq (oS jF8 ?_); refine AL.no ?_; refine AL.nil (AW.ret ?_)
  repeat with_reducible first | refine jAp ?_ | refine jAe ?_
  with_reducible first | refine jAw ?_ | refine jAf ?_
  refine jAY rfl (ResV.cells rfl rfl jAN (Nat.le_of_ble_eq_true rfl) rfl) rfl ?_; simp_all [jBo, RdrT, TagD.cs]
theorem jJU (h : r.Ok) : ACo Tryz.prog 115 [.bx 0 g 0] (RdrT g r) (fun y os' => y = (jCb r).1.av ∧ os' = RdrT g (jCb r).2) := by
  refine ACo.of' (st0 := [⟨g, .box 138 [.sl (byA r.b), .sc (.int .i64 r.f), .sc (.int .i64 r.at_), .sc (.bool r.bad)]⟩, TK.mk 0 .off, TK.mk 0 .off]) 16 2 Tryz.func115 rfl 1 ?_; refine AW.g (AL.oq (AOpB.op (oA 1 jIY ?_))); refine AL.no ?_; refine AL.nil (AW.g (AL.oq (AOpB.op (oA 2 jIY ?_)))); refine AL.no ?_; refine AL.nil (AW.g (AL.rm ?_)); refine AL.oq (jAi (jCB g r h) [0] ?_); rintro y os' ⟨rfl, rfl⟩; refine AL.noR ?_; refine AL.r (qa jB7) ?_; refine AL.oq (oS sz_3 ?_); refine AL.no ?_; refine AL.nil (AW.g (AL.rm ?_)); refine AL.oq (jAi (jCY g (numP r).2 h.num.ok 12) [0] ?_); rintro y os' ⟨rfl, rfl⟩; refine AL.noR ?_; refine AL.r (qa jC1) ?_; refine AL.oq (oS sz_9 ?_); refine AL.no ?_; refine AL.nil (AW.g (AL.rm ?_)); refine AL.oq (jAi (jCY g (jAH (numP r).2 12).2 (h.num.ok.text 12).ok 12) [0] ?_); rintro y os' ⟨rfl, rfl⟩; refine AL.noR ?_; refine AL.r (qa jFo) ?_; refine AL.oq (oS sz_9 ?_); refine AL.no ?_; refine AL.nil (AW.seq (AW.g (AL.rm ?_))); refine AL.oq (jAi (jDB g (jAH (jAH (numP r).2 12).2 12).2) [0] ?_); rintro y os' ⟨rfl, rfl⟩; refine AL.noR ?_; refine AL.nil (AW.cd rfl (fun h14 => ?_) (fun h14 => ?_))
  ·refine AW.g (AL.r (qB jLw jIY) ?_); refine AL.oq (oS jBw ?_); refine AL.no ?_; refine AL.nil (AW.ret ?_)
   repeat with_reducible first | refine jAp ?_ | refine jAe ?_
   with_reducible first | refine jAw ?_ | refine jAf ?_
   refine jAY rfl (ResV.cells rfl rfl jBa (Nat.le_of_ble_eq_true rfl) rfl) rfl ?_; simp_all [jCb, RdrT, RefD.cs]
  refine AW.skip (AW.g (AL.r (qN jBa) ?_)); refine AL.oq (oS jBw ?_); refine AL.no ?_; refine AL.nil (AW.ret ?_)
  repeat with_reducible first | refine jAp ?_ | refine jAe ?_
  with_reducible first | refine jAw ?_ | refine jAf ?_
  refine jAY rfl (ResV.cells rfl rfl jBa (Nat.le_of_ble_eq_true rfl) rfl) rfl ?_; simp_all [jCb, RdrT, RefD.cs]
end
def newR (b : List UInt8) (f : Int) : RdrD := ⟨b, f, 0, !okF f⟩
theorem jF7 {b : List UInt8} (hb : b.length ≤ 549755813888) (f : Int) : (newR b f).Ok := ⟨by simp only [newR]; omega, Int.le_refl _, by simp only [newR]; omega⟩
theorem jIL (b : List UInt8) (hb : b.length ≤ 549755813888) (f : Int) (h : Nat) : ACo Tryz.prog 56 [.sl (byA b), .sc (.int .i64 f)] [⟨h, .off⟩] (fun y os' => y = .bx 0 (h + 1) 0 ∧ os' = RdrT (h + 1) (newR b f)) := by
  refine ACo.of' (st0 := [⟨h, .off⟩, TK.mk 0 .off]) 11 1 Tryz.func56 rfl 1 ?_; refine AW.g (AL.ra ?_); refine AL.nil (AW.g (AL.rm ?_)); refine AL.cl (jI4 b [] (by omega) (by simp)) ?_; refine AL.no ?_; rw [List.append_nil]; (iterate 2 refine AL.rm ?_); refine AL.cl (jE1 f) ?_; refine AL.no ?_; refine AL.r qu ?_; refine AL.r (qB pl_138 ze_138) ?_; refine AL.oq (AOpB.op (oB 0 ?_)); refine AL.no ?_; refine AL.ra ?_; refine AL.nil (AW.ret ?_)
  repeat with_reducible first | refine jAp ?_ | refine jAe ?_
  with_reducible first | refine jAw ?_ | refine jAf ?_
  refine jAY rfl (ResV.tmp rfl) (resO_bx (by decide) rfl) ?_; exact ⟨rfl, rfl⟩
def jGR (x : Bool) : List UInt8 := [if x then 1 else 0]
end Go.Proofs.YtlapcfnmmpbeeaaGreat
