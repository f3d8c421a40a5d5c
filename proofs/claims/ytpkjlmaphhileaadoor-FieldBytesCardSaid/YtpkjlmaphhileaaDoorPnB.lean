/- What a reader tells is what the reference reads, plain. Conditions: a format that is one. -/
import Derived.Test.YtpkjlmaphhileaaDoorThA
import Derived.Test.YtpkjlmaphhileaaDoorPnA
namespace Go.Proofs.YtpkjlmaphhileaaDoor
set_option linter.unusedSimpArgs false
set_option linter.unusedVariables false
set_option maxRecDepth 100000
open Go.RowKit

def askT (k m : Int) : ThingD := ⟨k, 0, [], false, ⟨0, 0⟩, vec0, ⟨0, [], []⟩, m⟩
theorem rd8_nn {b : List UInt8} {at_ f : Int} {x : ThingD} (h0 : 0 ≤ at_) : 0 ≤ (rd8 b at_ f x).2.1 := by
  have hg : ∀ a, (getN b a f).2.2 = 0 → 0 ≤ a ∧ a < (getN b a f).2.1 := fun a h => ⟨(getN_ok h).1, (getN_ok h).2.1⟩
  have ht : ∀ a m, 0 ≤ (gText b a f m).2.1 := fun a m => by
    unfold gText
    have := hg a
    split
    · exact Int.le_refl _
    · simp only []; omega
  unfold rd8
  have h1 := hg at_
  have h2 := hg (getN b at_ f).2.1
  split
  · split
    · exact Int.le_refl _
    · simp only []; omega
  · split
    · exact ht _ _
    · split
      · split
        · exact Int.le_refl _
        · simp only []; omega
      · split
        · split
          · exact Int.le_refl _
          · simp only []; omega
        · split
          · split
            · exact Int.le_refl _
            · exact ht _ _
          · exact Int.le_refl _
theorem rd8_count {b : List UInt8} {at_ f m : Int} (h : (rd8 b at_ f (askT 6 m)).2.2 = true) : 0 ≤ (rd8 b at_ f (askT 6 m)).1.n ∧ (rd8 b at_ f (askT 6 m)).1.n ≤ m := by
  unfold rd8 at h ⊢
  rw [if_pos (.inr rfl)] at h ⊢
  split at h
  · cases h
  · rename_i h2
    rw [if_neg h2]
    simp only [askT, true_and] at h2
    simp only []
    omega
theorem badn {r : RdrD} (h : badP r = true) : badP (numP r).2 = true := by rw [bad_num h]; exact h
theorem badt {r : RdrD} {m : Int} (hm : 0 ≤ m) (h : badP r = true) : badP (rtextP r m).2 = true := by rw [bad_text h hm]; exact h
structure RdG (b : List UInt8) (f : Int) (r : RdrD) (a : Int) : Prop where
  b : r.b = b
  ff : r.f = f
  at_ : r.at_ = a
  bad : r.bad = false
section
variable {b : List UInt8} {f : Int} (hf : okF f = true) {r : RdrD} {a : Int}
include hf
theorem RdG.nb (h : RdG b f r a) : badP r = false := by unfold badP; rw [h.bad, h.ff, hf]; rfl
theorem rd_num (h : RdG b f r a) : ((getN b a f).2.2 = 0 → (numP r).1 = (getN b a f).1 ∧ RdG b f (numP r).2 (getN b a f).2.1) ∧ (¬ (getN b a f).2.2 = 0 → (numP r).1 = 0 ∧ badP (numP r).2 = true) := by
  have hb := RdG.nb hf h
  unfold numP
  rw [hb, if_neg (by decide), h.b, h.ff, h.at_]
  refine ⟨fun h1 => ?_, fun h1 => ?_⟩
  · rw [if_pos h1]
    exact ⟨rfl, ⟨rfl, rfl, rfl, h.bad⟩⟩
  · rw [if_neg h1]
    exact ⟨rfl, rfl⟩
theorem rd_left (h : RdG b f r a) : leftP r = b.length - a := by
  unfold leftP
  rw [RdG.nb hf h, if_neg (by decide), h.b, h.at_]
theorem rd_count (h : RdG b f r a) {most : Int} (hm : 0 ≤ most) : ((rd8 b a f (askT 6 most)).2.2 = true → (countP r most).1 = (rd8 b a f (askT 6 most)).1.n ∧ RdG b f (countP r most).2 (rd8 b a f (askT 6 most)).2.1) ∧ ((rd8 b a f (askT 6 most)).2.2 = false → badP (countP r most).2 = true) := by
  obtain ⟨h1, h2⟩ := rd_num hf h
  unfold rd8
  rw [if_pos (.inr rfl)]
  simp only [askT, true_and]
  by_cases hg : (getN b a f).2.2 = 0
  · obtain ⟨h3, h4⟩ := h1 hg
    unfold countP
    rw [h3]
    by_cases hr : (getN b a f).1 < 0 ∨ most < (getN b a f).1
    · rw [if_pos (.inr hr), if_pos hr]
      exact ⟨fun h => (by cases h), fun _ => rfl⟩
    · rw [if_neg (fun hh => hh.elim (fun h => h hg) hr), if_neg hr]
      exact ⟨fun _ => ⟨h3, h4⟩, fun h => (by cases h)⟩
  · obtain ⟨h3, h4⟩ := h2 hg
    rw [if_pos (.inl hg)]
    refine ⟨fun h => (by cases h), fun _ => ?_⟩
    unfold countP
    rw [h3, if_neg (by omega)]
    exact h4
theorem rd_text (h : RdG b f r a) {most : Int} (hm : 0 ≤ most) : ((gText b a f most).2.2 = true → (rtextP r most).1 = (gText b a f most).1 ∧ RdG b f (rtextP r most).2 (gText b a f most).2.1) ∧ ((gText b a f most).2.2 = false → badP (rtextP r most).2 = true) := by
  obtain ⟨h1, h2⟩ := rd_num hf h
  unfold gText
  by_cases hg : (getN b a f).2.2 = 0
  · obtain ⟨h3, h4⟩ := h1 hg
    have hl := rd_left hf h4
    by_cases hr : (getN b a f).1 < 0 ∨ most < (getN b a f).1 ∨ (b.length : Int) - (getN b a f).2.1 < (getN b a f).1
    · rw [if_pos (.inr hr)]
      refine ⟨fun h => (by cases h), fun _ => ?_⟩
      have e : textR r most = spoilP (numP r).2 := by
        unfold textR
        rw [if_pos (by rw [h3, hl]; exact hr)]
      unfold rtextP
      rw [e, if_pos (by rfl)]
      rfl
    · rw [if_neg (fun hh => hh.elim (fun h => h hg) hr)]
      refine ⟨fun _ => ?_, fun h => (by cases h)⟩
      have e : textR r most = (numP r).2 := by
        unfold textR
        rw [if_neg (by rw [h3, hl]; exact hr)]
      unfold rtextP
      rw [e, RdG.nb hf h4, if_neg (by decide), h4.b, h4.at_, h3]
      exact ⟨rfl, ⟨h4.b, h4.ff, rfl, h4.bad⟩⟩
  · obtain ⟨h3, h4⟩ := h2 hg
    rw [if_pos (.inl hg)]
    refine ⟨fun h => (by cases h), fun _ => ?_⟩
    have e : textR r most = (numP r).2 := by
      unfold textR leftP
      rw [h3, h4, if_pos rfl, if_neg (by omega)]
    unfold rtextP
    rw [e, if_pos h4]
    exact h4
theorem rd_tag (h : RdG b f r a) : ((rd8 b a f (askT 3 0)).2.2 = true → (rtagP r).1 = (rd8 b a f (askT 3 0)).1.t ∧ RdG b f (rtagP r).2 (rd8 b a f (askT 3 0)).2.1) ∧ ((rd8 b a f (askT 3 0)).2.2 = false → badP (rtagP r).2 = true) := by
  obtain ⟨h1, h2⟩ := rd_num hf h
  unfold rd8
  rw [if_neg (by simp [askT]), if_neg (by simp [askT]), if_neg (by simp [askT]), if_pos (by rfl)]
  by_cases hg : (getN b a f).2.2 = 0
  · obtain ⟨h3, h4⟩ := h1 hg
    obtain ⟨k1, k2⟩ := rd_num hf h4
    by_cases hg2 : (getN b (getN b a f).2.1 f).2.2 = 0
    · obtain ⟨k3, k4⟩ := k1 hg2
      rw [if_neg (fun hh => hh.elim (fun h => h hg) (fun h => h hg2))]
      refine ⟨fun _ => ?_, fun h => (by cases h)⟩
      unfold rtagP
      rw [RdG.nb hf k4, if_neg (by decide), h3, k3]
      exact ⟨rfl, k4⟩
    · obtain ⟨k3, k4⟩ := k2 hg2
      rw [if_pos (.inr hg2)]
      refine ⟨fun h => (by cases h), fun _ => ?_⟩
      unfold rtagP
      rw [if_pos k4]; exact k4
  · obtain ⟨h3, h4⟩ := h2 hg
    rw [if_pos (.inl hg)]
    refine ⟨fun h => (by cases h), fun _ => ?_⟩
    unfold rtagP
    rw [bad_num h4]
    simp only []
    rw [if_pos h4]; exact h4
theorem rd_flag (h : RdG b f r a) (h0 : 0 ≤ a) : ((rd8 b a f (askT 2 0)).2.2 = true → (rflagP r).1 = (rd8 b a f (askT 2 0)).1.f ∧ RdG b f (rflagP r).2 (rd8 b a f (askT 2 0)).2.1) ∧ ((rd8 b a f (askT 2 0)).2.2 = false → badP (rflagP r).2 = true) := by
  have hl := rd_left hf h
  unfold rd8
  rw [if_neg (by simp [askT]), if_neg (by simp [askT]), if_pos (by rfl)]
  by_cases h1 : (b.length : Int) ≤ a
  · rw [if_pos (.inl h1)]
    refine ⟨fun h => (by cases h), fun _ => ?_⟩
    unfold rflagP
    rw [hl, if_pos (by omega)]; rfl
  · have hn : a.toNat < b.length := by omega
    have he : r.b[r.at_.toNat]? = some (b.getD a.toNat 0) := by
      rw [h.b, h.at_, List.getD_eq_getElem?_getD, List.getElem?_eq_getElem hn]; rfl
    have e : rflagP r = if 1 < (b.getD a.toNat 0).toNat then (false, spoilP r) else ((b.getD a.toNat 0).toNat == 1, { r with at_ := r.at_ + 1 }) := by
      unfold rflagP
      rw [hl, if_neg (by omega), he]
    rw [e]
    by_cases h2 : 1 < (b.getD a.toNat 0).toNat
    · rw [if_pos (.inr h2), if_pos h2]
      exact ⟨fun h => (by cases h), fun _ => rfl⟩
    · rw [if_neg (fun hh => hh.elim h1 h2), if_neg h2]
      exact ⟨fun _ => ⟨rfl, ⟨h.b, h.ff, by show r.at_ + 1 = _; rw [h.at_], h.bad⟩⟩, fun h => (by cases h)⟩
theorem rd_ref (h : RdG b f r a) : ((rd8 b a f (askT 5 0)).2.2 = true → (rrefP r).1 = (rd8 b a f (askT 5 0)).1.r ∧ RdG b f (rrefP r).2 (rd8 b a f (askT 5 0)).2.1) ∧ ((rd8 b a f (askT 5 0)).2.2 = false → badP (rrefP r).2 = true) := by
  obtain ⟨h1, h2⟩ := rd_num hf h
  have fin : badP (rtextP (rtextP (numP r).2 12).2 12).2 = true → badP (rrefP r).2 = true := fun hb => by
    unfold rrefP
    rw [if_pos hb]; exact hb
  unfold rd8
  rw [if_neg (by simp [askT]), if_neg (by simp [askT]), if_neg (by simp [askT]), if_neg (by simp [askT]), if_pos (by rfl)]
  by_cases hg : (getN b a f).2.2 = 0
  · obtain ⟨h3, h4⟩ := h1 hg
    obtain ⟨k1, k2⟩ := rd_text hf h4 (most := 12) (by omega)
    cases hg2 : (gText b (getN b a f).2.1 f 12).2.2 with
    | true =>
      obtain ⟨k3, k4⟩ := k1 hg2
      obtain ⟨m1, m2⟩ := rd_text hf k4 (most := 12) (by omega)
      cases hg3 : (gText b (gText b (getN b a f).2.1 f 12).2.1 f 12).2.2 with
      | true =>
        obtain ⟨m3, m4⟩ := m1 hg3
        rw [if_neg (by simp [hg])]
        refine ⟨fun _ => ?_, fun h => (by cases h)⟩
        unfold rrefP
        rw [RdG.nb hf m4, if_neg (by decide), h3, k3, m3]
        exact ⟨rfl, m4⟩
      | false =>
        rw [if_pos (.inr (.inr rfl))]
        exact ⟨fun h => (by cases h), fun _ => fin (m2 hg3)⟩
    | false =>
      rw [if_pos (.inr (.inl rfl))]
      refine ⟨fun h => (by cases h), fun _ => fin ?_⟩
      rw [bad_text (k2 hg2) (by omega)]
      exact k2 hg2
  · obtain ⟨h3, h4⟩ := h2 hg
    rw [if_pos (.inl hg)]
    refine ⟨fun h => (by cases h), fun _ => fin ?_⟩
    rw [bad_text h4 (by omega)]
    simp only []
    rw [bad_text h4 (by omega)]
    exact h4
theorem rd_n (h : RdG b f r a) : ((rd8 b a f (askT 0 0)).2.2 = true → (numP r).1 = (rd8 b a f (askT 0 0)).1.n ∧ RdG b f (numP r).2 (rd8 b a f (askT 0 0)).2.1) ∧ ((rd8 b a f (askT 0 0)).2.2 = false → badP (numP r).2 = true) := by
  obtain ⟨h1, h2⟩ := rd_num hf h
  unfold rd8
  rw [if_pos (.inl rfl)]
  by_cases hg : (getN b a f).2.2 = 0
  · rw [if_neg (by simp [hg, askT])]
    exact ⟨fun _ => h1 hg, fun h => (by cases h)⟩
  · rw [if_pos (.inl hg)]
    exact ⟨fun h => (by cases h), fun _ => (h2 hg).2⟩
theorem rd_kind (h : RdG b f r a) {most : Int} (hm : 0 ≤ most) : ((rd8 b a f (askT 6 most)).2.2 = true → (numP r).1 = (rd8 b a f (askT 6 most)).1.n ∧ RdG b f (numP r).2 (rd8 b a f (askT 6 most)).2.1) ∧ ((rd8 b a f (askT 6 most)).2.2 = false → badP (numP r).2 = true ∨ (numP r).1 < 0 ∨ most < (numP r).1) := by
  obtain ⟨h1, h2⟩ := rd_num hf h
  unfold rd8
  rw [if_pos (.inr rfl)]
  simp only [askT, true_and]
  by_cases hg : (getN b a f).2.2 = 0
  · by_cases hr : (getN b a f).1 < 0 ∨ most < (getN b a f).1
    · rw [if_pos (.inr hr)]
      exact ⟨fun h => (by cases h), fun _ => .inr (by rw [(h1 hg).1]; exact hr)⟩
    · rw [if_neg (fun hh => hh.elim (fun h => h hg) hr)]
      exact ⟨fun _ => h1 hg, fun h => (by cases h)⟩
  · rw [if_pos (.inl hg)]
    exact ⟨fun h => (by cases h), fun _ => .inl (h2 hg).2⟩
theorem rd_s (h : RdG b f r a) {most : Int} (hm : 0 ≤ most) : ((rd8 b a f (askT 1 most)).2.2 = true → (rtextP r most).1 = (rd8 b a f (askT 1 most)).1.s ∧ RdG b f (rtextP r most).2 (rd8 b a f (askT 1 most)).2.1) ∧ ((rd8 b a f (askT 1 most)).2.2 = false → badP (rtextP r most).2 = true) := by
  unfold rd8
  rw [if_neg (by simp [askT]), if_pos (by rfl)]
  exact rd_text hf h hm
end
end Go.Proofs.YtpkjlmaphhileaaDoor
