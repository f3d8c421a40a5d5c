/- A part of a proof. -/
import Derived.Test.YtlapcfnmmpbeeaaGreatPO17
set_option linter.unusedSimpArgs false
set_option linter.unusedVariables false
namespace Go.Proofs.YtlapcfnmmpbeeaaGreat
set_option maxRecDepth 100000
set_option maxRecDepth 100000
open Go.RowKit
theorem jDl {s : jAU} (h : jBB s = true) : s.length ≤ 12 := by
  unfold jBB at h
  simp only [Bool.and_eq_true, decide_eq_true_eq] at h
  exact h.1.2
theorem jGc {r : RefD} (h : jCl r = true) : r.group.length ≤ 12 ∧ r.name.length ≤ 12 := by
  unfold jCl at h
  simp only [Bool.and_eq_true, Bool.or_eq_true, beq_iff_eq] at h
  refine ⟨?_, jDl h.1.2⟩
  rcases h.2 with h | h
  · rw [h]; simp
  exact jDl h
theorem jE2 (r : RdrD) {most : Int} (hm : 0 ≤ most) : 0 ≤ (jAJ r most).1 ∧ (jAJ r most).1 ≤ most := by
  unfold jAJ
  split
  · exact ⟨Int.le_refl _, hm⟩
  rename_i h; omega
theorem jEX (f : Int) (t : TagD) : (tagP f t).length ≤ 20 := by
  have := jAG f t.rep; have := jAG f t.n
  unfold tagP; rw [List.length_append]; omega
theorem jFa (f : Int) (r : RefD) : (refP f r).length ≤ 30 + r.group.length + r.name.length := by
  have := jAG f r.scope; have := jBg f r.group; have := jBg f r.name
  unfold refP; simp only [List.length_append]; omega
theorem pnum_o (b : List UInt8) (f z : Int) (hb : b.length ≤ 549755813888) (hf : i64R f) (hz : i64R z) (h : okF f = true) : AC Tryz.prog 44 [.sl (byA b), .sc (.int .i64 f), .sc (.int .i64 z)] (fun r => r = .o 5 1 (byA (b ++ putN f z))) := by
  refine AC.of' 8 1 Tryz.func44 rfl ?_; change AW _ _ _ _ [TK.mk 0 .off]; refine AW.g (AL.ra ?_); refine AL.nil (AW.g ?_); (iterate 3 refine AL.rm ?_); refine AL.oq (AOpB.op (jAb (cput_o b f z hf hz (by omega) (by simp [jJM (okF_iff.1 h)])) rfl (by kernel_rfl) rfl (some 0) ?_)); rintro r rfl; refine ⟨_, rfl, ?_⟩; refine AL.n ?_; refine AL.ra ?_; refine AL.nil (AW.ret (jDX rfl (ResV.tmp rfl) rfl ?_)); rfl
section
variable {r : RdrD} {f : Int} {pre suf : List UInt8}
theorem jFv (h : badP r = true) : numP r = (0, r) := by unfold numP; rw [if_pos h]
theorem jET (h : badP r = true) {most : Int} (hm : 0 ≤ most) : jAH r most = ([], r) := by
  have e : jC2 r most = r := by
    unfold jC2 jEu
    rw [jFv h]
    simp only []
    rw [if_pos h, if_neg (by omega)]
  unfold jAH
  rw [e, if_pos h]
theorem jDO (h : badP r = true) : badP (jBo r).2 = true := by unfold jBo; rw [jFv h]; simp only []; rw [jFv h, if_pos h]; exact h
theorem bad_flag (h : badP r = true) : badP (jCR r).2 = true := by
  unfold jCR jEu
  rw [if_pos h, if_pos (by decide)]
  rfl
theorem jFP (h : badP r = true) {most : Int} (hm : 0 ≤ most) : badP (jAJ r most).2 = true := by
  unfold jAJ
  rw [jFv h]
  simp only []
  rw [if_neg (by omega)]
  exact h
theorem jJR (h : badP r = true) : badP (jCb r).2 = true := by
  unfold jCb
  rw [jFv h]
  simp only []
  rw [jET h (by omega)]
  simp only []
  rw [jET h (by omega)]
  simp only []
  rw [if_pos h]; exact h
end
set_option maxRecDepth 100000
def askT (k m : Int) : ThingD := ⟨k, 0, [], false, ⟨0, 0⟩, vec0, ⟨0, [], []⟩, m⟩
theorem jA0 {b : List UInt8} {at_ f : Int} {x : ThingD} (h0 : 0 ≤ at_) : 0 ≤ (rd8 b at_ f x).2.1 := by
  have hg : ∀ a, (getN b a f).2.2 = 0 → 0 ≤ a ∧ a < (getN b a f).2.1 := fun a h => ⟨(jGe h).1, (jGe h).2.1⟩
  have ht : ∀ a m, 0 ≤ (jBO b a f m).2.1 := fun a m => by
    unfold jBO
    have := hg a
    split
    · exact Int.le_refl _
    simp only []; omega
  unfold rd8
  have h1 := hg at_
  have h2 := hg (getN b at_ f).2.1
  split
  · split
    · exact Int.le_refl _
    simp only []; omega
  split
  · exact ht _ _
  split
  · split
    · exact Int.le_refl _
    simp only []; omega
  split
  · split
    · exact Int.le_refl _
    simp only []; omega
  split
  · split
    · exact Int.le_refl _
    exact ht _ _
  exact Int.le_refl _
theorem jDK {b : List UInt8} {at_ f m : Int} (h : (rd8 b at_ f (askT 6 m)).2.2 = true) : 0 ≤ (rd8 b at_ f (askT 6 m)).1.n ∧ (rd8 b at_ f (askT 6 m)).1.n ≤ m := by
  unfold rd8 at h ⊢
  rw [if_pos (.inr rfl)] at h ⊢
  split at h
  · cases h
  rename_i h2
  rw [if_neg h2]
  simp only [askT, true_and] at h2
  simp only []
  omega
theorem badn {r : RdrD} (h : badP r = true) : badP (numP r).2 = true := by rw [jFv h]; exact h
theorem badt {r : RdrD} {m : Int} (hm : 0 ≤ m) (h : badP r = true) : badP (jAH r m).2 = true := by rw [jET h hm]; exact h
structure RdG (b : List UInt8) (f : Int) (r : RdrD) (a : Int) : Prop where
  b : r.b = b
  ff : r.f = f
  at_ : r.at_ = a
  bad : r.bad = false
section
variable {b : List UInt8} {f : Int} (hf : okF f = true) {r : RdrD} {a : Int}
include hf
theorem RdG.nb (h : RdG b f r a) : badP r = false := by unfold badP; rw [h.bad, h.ff, hf]; rfl
theorem jEI (h : RdG b f r a) : ((getN b a f).2.2 = 0 → (numP r).1 = (getN b a f).1 ∧ RdG b f (numP r).2 (getN b a f).2.1) ∧ (¬ (getN b a f).2.2 = 0 → (numP r).1 = 0 ∧ badP (numP r).2 = true) := by
  have hb := RdG.nb hf h
  unfold numP
  rw [hb, if_neg (by decide), h.b, h.ff, h.at_]
  refine ⟨fun h1 => ?_, fun h1 => ?_⟩
  · rw [if_pos h1]
    exact ⟨rfl, ⟨rfl, rfl, rfl, h.bad⟩⟩
  rw [if_neg h1]
  exact ⟨rfl, rfl⟩
theorem jM2 (h : RdG b f r a) : jEu r = b.length - a := by
  unfold jEu
  rw [RdG.nb hf h, if_neg (by decide), h.b, h.at_]
theorem jGs (h : RdG b f r a) {most : Int} (hm : 0 ≤ most) : ((rd8 b a f (askT 6 most)).2.2 = true → (jAJ r most).1 = (rd8 b a f (askT 6 most)).1.n ∧ RdG b f (jAJ r most).2 (rd8 b a f (askT 6 most)).2.1) ∧ ((rd8 b a f (askT 6 most)).2.2 = false → badP (jAJ r most).2 = true) := by
  obtain ⟨h1, h2⟩ := jEI hf h
  unfold rd8
  rw [if_pos (.inr rfl)]
  simp only [askT, true_and]
  by_cases hg : (getN b a f).2.2 = 0
  · obtain ⟨h3, h4⟩ := h1 hg
    unfold jAJ
    rw [h3]
    by_cases hr : (getN b a f).1 < 0 ∨ most < (getN b a f).1
    · rw [if_pos (.inr hr), if_pos hr]
      exact ⟨fun h => (by cases h), fun _ => rfl⟩
    rw [if_neg (fun hh => hh.elim (fun h => h hg) hr), if_neg hr]
    exact ⟨fun _ => ⟨h3, h4⟩, fun h => (by cases h)⟩
  obtain ⟨h3, h4⟩ := h2 hg
  rw [if_pos (.inl hg)]
  refine ⟨fun h => (by cases h), fun _ => ?_⟩
  unfold jAJ
  rw [h3, if_neg (by omega)]
  exact h4
theorem jJD (h : RdG b f r a) {most : Int} (hm : 0 ≤ most) : ((jBO b a f most).2.2 = true → (jAH r most).1 = (jBO b a f most).1 ∧ RdG b f (jAH r most).2 (jBO b a f most).2.1) ∧ ((jBO b a f most).2.2 = false → badP (jAH r most).2 = true) := by
  obtain ⟨h1, h2⟩ := jEI hf h
  unfold jBO
  by_cases hg : (getN b a f).2.2 = 0
  · obtain ⟨h3, h4⟩ := h1 hg
    have hl := jM2 hf h4
    by_cases hr : (getN b a f).1 < 0 ∨ most < (getN b a f).1 ∨ (b.length : Int) - (getN b a f).2.1 < (getN b a f).1
    · rw [if_pos (.inr hr)]
      refine ⟨fun h => (by cases h), fun _ => ?_⟩
      have e : jC2 r most = jCt (numP r).2 := by
        unfold jC2
        rw [if_pos (by rw [h3, hl]; exact hr)]
      unfold jAH
      rw [e, if_pos (by rfl)]
      rfl
    rw [if_neg (fun hh => hh.elim (fun h => h hg) hr)]
    refine ⟨fun _ => ?_, fun h => (by cases h)⟩
    have e : jC2 r most = (numP r).2 := by
      unfold jC2
      rw [if_neg (by rw [h3, hl]; exact hr)]
    unfold jAH
    rw [e, RdG.nb hf h4, if_neg (by decide), h4.b, h4.at_, h3]
    exact ⟨rfl, ⟨h4.b, h4.ff, rfl, h4.bad⟩⟩
  obtain ⟨h3, h4⟩ := h2 hg
  rw [if_pos (.inl hg)]
  refine ⟨fun h => (by cases h), fun _ => ?_⟩
  have e : jC2 r most = (numP r).2 := by
    unfold jC2 jEu
    rw [h3, h4, if_pos rfl, if_neg (by omega)]
  unfold jAH
  rw [e, if_pos h4]
  exact h4
theorem jHc (h : RdG b f r a) : ((rd8 b a f (askT 3 0)).2.2 = true → (jBo r).1 = (rd8 b a f (askT 3 0)).1.t ∧ RdG b f (jBo r).2 (rd8 b a f (askT 3 0)).2.1) ∧ ((rd8 b a f (askT 3 0)).2.2 = false → badP (jBo r).2 = true) := by
  obtain ⟨h1, h2⟩ := jEI hf h
  unfold rd8
  rw [if_neg (by simp [askT]), if_neg (by simp [askT]), if_neg (by simp [askT]), if_pos (by rfl)]
  by_cases hg : (getN b a f).2.2 = 0
  · obtain ⟨h3, h4⟩ := h1 hg
    obtain ⟨k1, k2⟩ := jEI hf h4
    by_cases hg2 : (getN b (getN b a f).2.1 f).2.2 = 0
    · obtain ⟨k3, k4⟩ := k1 hg2
      rw [if_neg (fun hh => hh.elim (fun h => h hg) (fun h => h hg2))]
      refine ⟨fun _ => ?_, fun h => (by cases h)⟩
      unfold jBo
      rw [RdG.nb hf k4, if_neg (by decide), h3, k3]
      exact ⟨rfl, k4⟩
    obtain ⟨k3, k4⟩ := k2 hg2
    rw [if_pos (.inr hg2)]
    refine ⟨fun h => (by cases h), fun _ => ?_⟩
    unfold jBo
    rw [if_pos k4]; exact k4
  obtain ⟨h3, h4⟩ := h2 hg
  rw [if_pos (.inl hg)]
  refine ⟨fun h => (by cases h), fun _ => ?_⟩
  unfold jBo
  rw [jFv h4]
  simp only []
  rw [if_pos h4]; exact h4
theorem rd_flag (h : RdG b f r a) (h0 : 0 ≤ a) : ((rd8 b a f (askT 2 0)).2.2 = true → (jCR r).1 = (rd8 b a f (askT 2 0)).1.f ∧ RdG b f (jCR r).2 (rd8 b a f (askT 2 0)).2.1) ∧ ((rd8 b a f (askT 2 0)).2.2 = false → badP (jCR r).2 = true) := by
  have hl := jM2 hf h
  unfold rd8
  rw [if_neg (by simp [askT]), if_neg (by simp [askT]), if_pos (by rfl)]
  by_cases h1 : (b.length : Int) ≤ a
  · rw [if_pos (.inl h1)]
    refine ⟨fun h => (by cases h), fun _ => ?_⟩
    unfold jCR
    rw [hl, if_pos (by omega)]; rfl
  have hn : a.toNat < b.length := by omega
  have he : r.b[r.at_.toNat]? = some (b.getD a.toNat 0) := by
    rw [h.b, h.at_, List.getD_eq_getElem?_getD, List.getElem?_eq_getElem hn]; rfl
  have e : jCR r = if 1 < (b.getD a.toNat 0).toNat then (false, jCt r) else ((b.getD a.toNat 0).toNat == 1, { r with at_ := r.at_ + 1 }) := by
    unfold jCR
    rw [hl, if_neg (by omega), he]
  rw [e]
  by_cases h2 : 1 < (b.getD a.toNat 0).toNat
  · rw [if_pos (.inr h2), if_pos h2]
    exact ⟨fun h => (by cases h), fun _ => rfl⟩
  rw [if_neg (fun hh => hh.elim h1 h2), if_neg h2]
  exact ⟨fun _ => ⟨rfl, ⟨h.b, h.ff, by show r.at_ + 1 = _; rw [h.at_], h.bad⟩⟩, fun h => (by cases h)⟩
theorem jMT (h : RdG b f r a) : ((rd8 b a f (askT 5 0)).2.2 = true → (jCb r).1 = (rd8 b a f (askT 5 0)).1.r ∧ RdG b f (jCb r).2 (rd8 b a f (askT 5 0)).2.1) ∧ ((rd8 b a f (askT 5 0)).2.2 = false → badP (jCb r).2 = true) := by
  obtain ⟨h1, h2⟩ := jEI hf h
  have fin : badP (jAH (jAH (numP r).2 12).2 12).2 = true → badP (jCb r).2 = true := fun hb => by
    unfold jCb
    rw [if_pos hb]; exact hb
  unfold rd8
  rw [if_neg (by simp [askT]), if_neg (by simp [askT]), if_neg (by simp [askT]), if_neg (by simp [askT]), if_pos (by rfl)]
  by_cases hg : (getN b a f).2.2 = 0
  · obtain ⟨h3, h4⟩ := h1 hg
    obtain ⟨k1, k2⟩ := jJD hf h4 (most := 12) (by omega)
    cases hg2 : (jBO b (getN b a f).2.1 f 12).2.2 with
    | true =>
      obtain ⟨k3, k4⟩ := k1 hg2
      obtain ⟨m1, m2⟩ := jJD hf k4 (most := 12) (by omega)
      cases hg3 : (jBO b (jBO b (getN b a f).2.1 f 12).2.1 f 12).2.2 with
      | true =>
        obtain ⟨m3, m4⟩ := m1 hg3
        rw [if_neg (by simp [hg])]
        refine ⟨fun _ => ?_, fun h => (by cases h)⟩
        unfold jCb
        rw [RdG.nb hf m4, if_neg (by decide), h3, k3, m3]
        exact ⟨rfl, m4⟩
      | false =>
        rw [if_pos (.inr (.inr rfl))]
        exact ⟨fun h => (by cases h), fun _ => fin (m2 hg3)⟩
    | false =>
      rw [if_pos (.inr (.inl rfl))]
      refine ⟨fun h => (by cases h), fun _ => fin ?_⟩; rw [jET (k2 hg2) (by omega)]; exact k2 hg2
  obtain ⟨h3, h4⟩ := h2 hg
  rw [if_pos (.inl hg)]
  refine ⟨fun h => (by cases h), fun _ => fin ?_⟩; rw [jET h4 (by omega)]; simp only []; rw [jET h4 (by omega)]; exact h4
theorem rd_n (h : RdG b f r a) : ((rd8 b a f (askT 0 0)).2.2 = true → (numP r).1 = (rd8 b a f (askT 0 0)).1.n ∧ RdG b f (numP r).2 (rd8 b a f (askT 0 0)).2.1) ∧ ((rd8 b a f (askT 0 0)).2.2 = false → badP (numP r).2 = true) := by
  obtain ⟨h1, h2⟩ := jEI hf h
  unfold rd8
  rw [if_pos (.inl rfl)]
  by_cases hg : (getN b a f).2.2 = 0
  · rw [if_neg (by simp [hg, askT])]
    exact ⟨fun _ => h1 hg, fun h => (by cases h)⟩
  rw [if_pos (.inl hg)]
  exact ⟨fun h => (by cases h), fun _ => (h2 hg).2⟩
theorem jMH (h : RdG b f r a) {most : Int} (hm : 0 ≤ most) : ((rd8 b a f (askT 6 most)).2.2 = true → (numP r).1 = (rd8 b a f (askT 6 most)).1.n ∧ RdG b f (numP r).2 (rd8 b a f (askT 6 most)).2.1) ∧ ((rd8 b a f (askT 6 most)).2.2 = false → badP (numP r).2 = true ∨ (numP r).1 < 0 ∨ most < (numP r).1) := by
  obtain ⟨h1, h2⟩ := jEI hf h
  unfold rd8
  rw [if_pos (.inr rfl)]
  simp only [askT, true_and]
  by_cases hg : (getN b a f).2.2 = 0
  · by_cases hr : (getN b a f).1 < 0 ∨ most < (getN b a f).1
    · rw [if_pos (.inr hr)]
      exact ⟨fun h => (by cases h), fun _ => .inr (by rw [(h1 hg).1]; exact hr)⟩
    rw [if_neg (fun hh => hh.elim (fun h => h hg) hr)]
    exact ⟨fun _ => h1 hg, fun h => (by cases h)⟩
  rw [if_pos (.inl hg)]
  exact ⟨fun h => (by cases h), fun _ => .inl (h2 hg).2⟩
theorem rd_s (h : RdG b f r a) {most : Int} (hm : 0 ≤ most) : ((rd8 b a f (askT 1 most)).2.2 = true → (jAH r most).1 = (rd8 b a f (askT 1 most)).1.s ∧ RdG b f (jAH r most).2 (rd8 b a f (askT 1 most)).2.1) ∧ ((rd8 b a f (askT 1 most)).2.2 = false → badP (jAH r most).2 = true) := by
  unfold rd8
  rw [if_neg (by simp [askT]), if_pos (by rfl)]
  exact jJD hf h hm
end
set_option maxRecDepth 100000
def zeroF : FldD := ⟨⟨0, [], []⟩, 0, [], [], 0⟩
structure FldD.Wf (x : FldD) : Prop where
  scope : i64R x.at_.scope
  kind : i64R x.kind
  worth : i64R x.worth
structure FldD.Light (x : FldD) : Prop where
  group : x.at_.group.length ≤ 200
  name : x.at_.name.length ≤ 200
  dflt : x.dflt.length ≤ 200
  cases : x.cases.length ≤ 20
  case : ∀ c ∈ x.cases, c.length ≤ 200
def pf1 (f : Int) (x : FldD) : List UInt8 := refP f x.at_
def pf2 (f : Int) (x : FldD) : List UInt8 := pf1 f x ++ putN f x.kind
def pf3 (f : Int) (x : FldD) : List UInt8 := pf2 f x ++ jC5 f x.dflt
def pf4 (f : Int) (x : FldD) : List UInt8 := pf3 f x ++ putN f (x.cases.length : Nat)
def pf5 (f : Int) (x : FldD) (k : Nat) : List UInt8 := pf4 f x ++ (x.cases.take k).flatMap (jC5 f)
def putF (f : Int) (x : FldD) : List UInt8 := pf5 f x x.cases.length ++ putN f x.worth
theorem pf5_0 (f : Int) (x : FldD) : pf5 f x 0 = pf4 f x := by unfold pf5; simp
theorem pf5_s {f : Int} {x : FldD} {k : Nat} (hk : k < x.cases.length) : pf5 f x (k + 1) = pf5 f x k ++ jC5 f x.cases[k] := by
  unfold pf5
  rw [← List.take_append_getElem hk, List.flatMap_append]; simp
theorem jFF {f : Int} {x : FldD} (h : x.Light) (k : Nat) : (pf4 f x).length ≤ 700 ∧ (pf5 f x k).length ≤ 700 + 210 * k := by
  have a1 := jFa f x.at_; have a2 := jAG f x.kind; have a3 := jBg f x.dflt; have a4 := jAG f (x.cases.length : Nat)
  have h1 := h.group; have h2 := h.name; have h3 := h.dflt
  have hd : ∀ l : List jAU, (∀ c ∈ l, c.length ≤ 200) → (l.flatMap (jC5 f)).length ≤ 210 * l.length := fun l => by
    induction l with
    | nil => intro _; simp
    | cons t l ih =>
      intro hl
      have := jBg f t; have := hl t (by simp); have := ih (fun c hc => hl c (by simp [hc]))
      simp only [List.flatMap_cons, List.length_append, List.length_cons]; omega
  have := hd (x.cases.take k) (fun c hc => h.case c (List.mem_of_mem_take hc))
  have ht : (x.cases.take k).length ≤ k := by rw [List.length_take]; omega
  unfold pf5 pf4 pf3 pf2 pf1
  simp only [List.length_append]
  omega
theorem putF_len {f : Int} {x : FldD} (h : x.Light) : (putF f x).length ≤ 5000 := by
  have := (jFF (f := f) h x.cases.length).2
  have := h.cases; have := jAG f x.worth
  unfold putF; rw [List.length_append]; omega
def jCC : Nat → RdrD → List jAU × RdrD
  | 0, r => ([], r)
  | n + 1, r => ((jCC n r).1 ++ [(jAH (jCC n r).2 12).1], (jAH (jCC n r).2 12).2)
def u1 (r : RdrD) : RdrD := (jCb r).2
def u2 (r : RdrD) : RdrD := (numP (u1 r)).2
def u3 (r : RdrD) : RdrD := (jAH (u2 r) 40).2
def u4 (r : RdrD) : RdrD := (jAJ (u3 r) 6).2
def un (r : RdrD) : Nat := (jAJ (u3 r) 6).1.toNat
def u5 (r : RdrD) : RdrD := (jCC (un r) (u4 r)).2
def u6 (r : RdrD) : RdrD := (numP (u5 r)).2
def rawF (r : RdrD) : FldD := ⟨(jCb r).1, (numP (u1 r)).1, (jAH (u2 r) 40).1, (jCC (un r) (u4 r)).1, (numP (u5 r)).1⟩
def getF (r : RdrD) : FldD × RdrD := if badP (u6 r) = false ∧ jBk (rawF r) = true then (rawF r, u6 r) else (zeroF, jCt (u6 r))
theorem jGU {r : RdrD} (h : r.Ok) : ∀ n, r.Of (jCC n r).2 ∧ (jCC n r).1.length = n
  | 0 => ⟨h.of, rfl⟩
  | n + 1 => by
    obtain ⟨a, b⟩ := jGU h n
    exact ⟨a.trans (a.ok.text 12), by rw [jCC, List.length_append, b]; rfl⟩
section
variable {r : RdrD} (h : r.Ok)
include h
theorem u1_ok : r.Of (u1 r) := h.ref
theorem u2_ok : r.Of (u2 r) := (u1_ok h).trans (u1_ok h).ok.num
theorem u3_ok : r.Of (u3 r) := (u2_ok h).trans ((u2_ok h).ok.text 40)
theorem u4_ok : r.Of (u4 r) := (u3_ok h).trans ((u3_ok h).ok.count 6)
theorem u5_ok : r.Of (u5 r) := (u4_ok h).trans (jGU (u4_ok h).ok _).1
theorem u6_ok : r.Of (u6 r) := (u5_ok h).trans (u5_ok h).ok.num
theorem getF_ok : r.Of (getF r).2 := by
  unfold getF
  split
  · exact u6_ok h
  exact (u6_ok h).trans (u6_ok h).ok.spoil
end
theorem jIM {r : RdrD} (h : badP r = true) : ∀ n, badP (jCC n r).2 = true
  | 0 => h
  | n + 1 => badt (by omega) (jIM h n)
theorem jJr {r : RdrD} (h : badP (u6 r) = true ∨ jBk (rawF r) = false) : (getF r).1 = zeroF ∧ badP (getF r).2 = true := by
  unfold getF
  rw [if_neg (by rintro ⟨a, b⟩; rcases h with h | h <;> simp_all)]
  exact ⟨rfl, rfl⟩
section
variable {r : RdrD}
theorem b5 (h : badP (u5 r) = true) : badP (u6 r) = true := badn h
theorem b4 (h : badP (u4 r) = true) : badP (u6 r) = true := b5 (jIM h _)
theorem b3 (h : badP (u3 r) = true) : badP (u6 r) = true := b4 (jFP h (by omega))
theorem b2 (h : badP (u2 r) = true) : badP (u6 r) = true := b3 (badt (by omega) h)
theorem b1 (h : badP (u1 r) = true) : badP (u6 r) = true := b2 (badn h)
theorem b0 (h : badP r = true) : badP (u6 r) = true := b1 (jJR h)
end
theorem jEr {x : FldD} (h : jBk x = true) : (x.at_.group.length ≤ 12 ∧ x.at_.name.length ≤ 12) ∧ x.dflt.length ≤ 40 ∧ x.cases.length ≤ 6 ∧ (∀ c ∈ x.cases, c.length ≤ 12) ∧ 1 ≤ x.kind ∧ x.kind ≤ 4 := by
  unfold jBk at h
  rw [Bool.and_eq_true] at h
  obtain ⟨hp, h⟩ := h
  have hpl := jGc hp
  have e0 : ∀ l : List jAU, (l == []) = true → l.length ≤ 6 ∧ ∀ c ∈ l, c.length ≤ 12 := fun l h => by
    obtain rfl := eq_of_beq h
    exact ⟨by simp, fun c hc => by simp at hc⟩
  split at h
  · rename_i hk
    simp only [Bool.and_eq_true] at h
    obtain ⟨⟨⟨h1, h2⟩, _⟩, _⟩ := h
    have := eq_of_beq h1
    exact ⟨hpl, by rw [this]; simp, (e0 _ h2).1, (e0 _ h2).2, by omega, by omega⟩
  split at h
  · rename_i hk
    simp only [Bool.and_eq_true, decide_eq_true_eq] at h
    exact ⟨hpl, h.1.1, (e0 _ h.1.2).1, (e0 _ h.1.2).2, by omega, by omega⟩
  split at h
  · rename_i hk
    simp only [Bool.and_eq_true] at h
    obtain ⟨⟨h1, h2⟩, _⟩ := h
    unfold jD1 at h1
    simp only [Bool.and_eq_true, decide_eq_true_eq, List.all_eq_true, List.mem_range] at h1
    have hc : ∀ c ∈ x.cases, c.length ≤ 12 := fun c hc => by
      obtain ⟨i, hi, rfl⟩ := List.getElem_of_mem hc
      have := (h1.2 i hi).1
      rw [List.getD_eq_getElem?_getD, List.getElem?_eq_getElem hi] at this
      exact jDl this
    have := hc _ (List.contains_iff_mem.1 h2)
    exact ⟨hpl, by omega, h1.1.2, hc, by omega, by omega⟩
  split at h
  · rename_i hk
    simp only [Bool.and_eq_true] at h
    obtain ⟨⟨h1, h2⟩, _⟩ := h
    have := eq_of_beq h1
    exact ⟨hpl, by rw [this]; simp, (e0 _ h2).1, (e0 _ h2).2, by omega, by omega⟩
  cases h
section
variable (b : List UInt8) (f a : Int)
def y1 := rd8 b a f (askT 5 0)
def y2 := rd8 b (y1 b f a).2.1 f (askT 0 0)
def y3 := rd8 b (y2 b f a).2.1 f (askT 1 40)
def y4 := rd8 b (y3 b f a).2.1 f (askT 6 6)
def cst : Nat → List jAU × Int × Bool
  | 0 => ([], (y4 b f a).2.1, true)
  | j + 1 => ((cst j).1 ++ [(rd8 b (cst j).2.1 f (askT 1 12)).1.s], (rd8 b (cst j).2.1 f (askT 1 12)).2.1, (cst j).2.2 && (rd8 b (cst j).2.1 f (askT 1 12)).2.2)
def yn : Nat := (y4 b f a).1.n.toNat
def y6 := rd8 b (cst b f a (yn b f a)).2.1 f (askT 0 0)
def jHE : FldD := ⟨(y1 b f a).1.r, (y2 b f a).1.n, (y3 b f a).1.s, (cst b f a (yn b f a)).1, (y6 b f a).1.n⟩
def ok13 : Bool := (y1 b f a).2.2 && (y2 b f a).2.2 && (y3 b f a).2.2 && (y4 b f a).2.2 && (cst b f a (yn b f a)).2.2 && (y6 b f a).2.2 && jBk (jHE b f a)
def jDw : FldD × Int × Bool := if ok13 b f a then (jHE b f a, (y6 b f a).2.1, true) else (zeroF, 0, false)
end
theorem jJ2 {b : List UInt8} {f a : Int} (h0 : 0 ≤ a) : ∀ k, 0 ≤ (cst b f a k).2.1
  | 0 => jA0 (jA0 (jA0 (jA0 h0)))
  | k + 1 => jA0 (jJ2 h0 k)
theorem jF6 (b : List UInt8) (f a : Int) : ∀ k, (cst b f a k).1.length = k
  | 0 => rfl
  | k + 1 => by rw [cst, List.length_append, jF6]; rfl
theorem jJc {b : List UInt8} {f a : Int} {j : Nat} (h : (cst b f a j).2.2 = false) : ∀ k, (cst b f a (j + k)).2.2 = false
  | 0 => h
  | k + 1 => by rw [← Nat.add_assoc, cst, jJc h k]; rfl
theorem jDk {b : List UInt8} {f a : Int} (h : ¬ ok13 b f a = true) : jDw b f a = (zeroF, 0, false) := if_neg h
theorem get13_nn {b : List UInt8} {f a : Int} (h0 : 0 ≤ a) : 0 ≤ (jDw b f a).2.1 := by
  unfold jDw
  split
  · exact jA0 (jJ2 h0 _)
  exact Int.le_refl _
section
variable {b : List UInt8} {f : Int} (hf : okF f = true)
include hf
theorem jIp {r : RdrD} {a : Int} (h : RdG b f r (y4 b f a).2.1) : ∀ k, ((cst b f a k).2.2 = true → (jCC k r).1 = (cst b f a k).1 ∧ RdG b f (jCC k r).2 (cst b f a k).2.1) ∧ ((cst b f a k).2.2 = false → badP (jCC k r).2 = true)
  | 0 => ⟨fun _ => ⟨rfl, h⟩, fun h => (by cases h)⟩
  | k + 1 => by
    obtain ⟨i1, i2⟩ := jIp h k
    rw [cst]
    simp only [Bool.and_eq_true, Bool.and_eq_false_iff]
    cases e : (cst b f a k).2.2 with
    | false => exact ⟨fun hh => (by cases hh.1), fun _ => badt (by omega) (i2 e)⟩
    | true =>
      obtain ⟨v, g⟩ := i1 e
      obtain ⟨j1, j2⟩ := rd_s hf g (most := 12) (by omega)
      refine ⟨fun hh => ?_, fun hh => hh.elim (fun h => (by cases h)) j2⟩; obtain ⟨v2, g2⟩ := j1 hh.2; exact ⟨by rw [jCC, v, v2], g2⟩
theorem fld_sim {r : RdrD} {a : Int} (g0 : RdG b f r a) : (ok13 b f a = true → (getF r).1 = jHE b f a ∧ RdG b f (getF r).2 (y6 b f a).2.1) ∧ (ok13 b f a = false → badP (getF r).2 = true) := by
  have no : ok13 b f a = false → badP (u6 r) = true → (ok13 b f a = true → (getF r).1 = jHE b f a ∧ RdG b f (getF r).2 (y6 b f a).2.1) ∧ (ok13 b f a = false → badP (getF r).2 = true) := fun h1 h2 => ⟨fun h => (by rw [h1] at h; cases h), fun _ => (jJr (.inl h2)).2⟩
  have s1 := jMT hf g0
  cases e1 : (y1 b f a).2.2 with
  | false => exact no (by unfold ok13; rw [e1]; rfl) (b1 (s1.2 e1))
  | true =>
  obtain ⟨v1, g1⟩ := s1.1 e1
  have s2 := rd_n hf g1
  cases e2 : (y2 b f a).2.2 with
  | false => exact no (by unfold ok13; rw [e1, e2]; rfl) (b2 (s2.2 e2))
  | true =>
  obtain ⟨v2, g2⟩ := s2.1 e2
  have s3 := rd_s hf g2 (most := 40) (by omega)
  cases e3 : (y3 b f a).2.2 with
  | false => exact no (by unfold ok13; rw [e1, e2, e3]; rfl) (b3 (s3.2 e3))
  | true =>
  obtain ⟨v3, g3⟩ := s3.1 e3
  have s4 := jGs hf g3 (most := 6) (by omega)
  cases e4 : (y4 b f a).2.2 with
  | false => exact no (by unfold ok13; rw [e1, e2, e3, e4]; rfl) (b4 (s4.2 e4))
  | true =>
  obtain ⟨v4, g4⟩ := s4.1 e4
  have hn : un r = yn b f a := by unfold un yn; exact congrArg Int.toNat v4
  have s5 := jIp hf (a := a) g4 (yn b f a)
  cases e5 : (cst b f a (yn b f a)).2.2 with
  | false => exact no (by unfold ok13; rw [e1, e2, e3, e4, e5]; rfl) (b5 (by unfold u5; rw [hn]; exact s5.2 e5))
  | true =>
  obtain ⟨v5, g5⟩ := s5.1 e5
  have g5 : RdG b f (u5 r) (cst b f a (yn b f a)).2.1 := by unfold u5; rw [hn]; exact g5
  have s6 := rd_n hf g5
  cases e6 : (y6 b f a).2.2 with
  | false => exact no (by unfold ok13; rw [e1, e2, e3, e4, e5, e6]; rfl) (s6.2 e6)
  | true =>
  obtain ⟨v6, g6⟩ := s6.1 e6
  have g6 : RdG b f (u6 r) (y6 b f a).2.1 := g6
  have hraw : rawF r = jHE b f a := by
    have w1 : (jCb r).1 = (y1 b f a).1.r := v1
    have w2 : (numP (u1 r)).1 = (y2 b f a).1.n := v2
    have w3 : (jAH (u2 r) 40).1 = (y3 b f a).1.s := v3
    have w5 : (jCC (un r) (u4 r)).1 = (cst b f a (yn b f a)).1 := by rw [hn]; exact v5
    have w6 : (numP (u5 r)).1 = (y6 b f a).1.n := v6
    unfold rawF jHE
    rw [w1, w2, w3, w5, w6]
  have hok : ok13 b f a = jBk (jHE b f a) := by
    unfold ok13
    rw [e1, e2, e3, e4, e5, e6]; rfl
  rw [hok, ← hraw]
  refine ⟨fun h => ?_, fun h => (jJr (.inr h)).2⟩
  unfold getF
  rw [if_pos ⟨g6.nb hf, h⟩]
  exact ⟨rfl, g6⟩
end
end Go.Proofs.YtlapcfnmmpbeeaaGreat
