/- A part of a proof. -/
import Derived.Test.YtlapcfnmmpbeeaaGreatPO40
set_option linter.unusedSectionVars false
set_option linter.unusedSimpArgs false
set_option linter.unusedVariables false
namespace Go.Proofs.YtlapcfnmmpbeeaaGreat
set_option maxRecDepth 100000
open Go.RowKit
def lstB {α : Type} (get : Int → α × Int × Bool) (a : Int) : Nat → List α × Int × Bool
  | 0 => ([], a, true)
  | k + 1 => ((lstB get a k).1 ++ [(get (lstB get a k).2.1).1], (get (lstB get a k).2.1).2.1, (lstB get a k).2.2 && (get (lstB get a k).2.1).2.2)
section
variable {α : Type} {get : Int → α × Int × Bool}
theorem jD4 (a : Int) : ∀ k, (lstB get a k).1.length = k
  | 0 => rfl
  | k + 1 => by rw [lstB, List.length_append, jD4 a k]; rfl
theorem jGF (hn : ∀ a, 0 ≤ a → 0 ≤ (get a).2.1) {a : Int} (h : 0 ≤ a) : ∀ k, 0 ≤ (lstB get a k).2.1
  | 0 => h
  | k + 1 => hn _ (jGF hn h k)
theorem jE5 {a : Int} {j : Nat} (h : (lstB get a j).2.2 = false) : ∀ k, (lstB get a (j + k)).2.2 = false
  | 0 => h
  | k + 1 => by rw [← Nat.add_assoc, lstB, jE5 h k]; rfl
theorem jMF {b : List UInt8} {f : Int} {gr : RdrD → α × RdrD} (hn : ∀ a, 0 ≤ a → 0 ≤ (get a).2.1) (hb : ∀ r, badP r = true → badP (gr r).2 = true)
    (hs : ∀ (r : RdrD) (a : Int), 0 ≤ a → RdG b f r a → ((get a).2.2 = true → (gr r).1 = (get a).1 ∧ RdG b f (gr r).2 (get a).2.1) ∧ ((get a).2.2 = false → badP (gr r).2 = true))
    {r : RdrD} {a : Int} (h0 : 0 ≤ a) (h : RdG b f r a) : ∀ k, ((lstB get a k).2.2 = true → (lstR gr r k).1 = (lstB get a k).1 ∧ RdG b f (lstR gr r k).2 (lstB get a k).2.1) ∧ ((lstB get a k).2.2 = false → badP (lstR gr r k).2 = true)
  | 0 => ⟨fun _ => ⟨rfl, h⟩, fun h => (by cases h)⟩
  | k + 1 => by
    obtain ⟨i1, i2⟩ := jMF hn hb hs h0 h k
    rw [lstB]
    simp only [Bool.and_eq_true, Bool.and_eq_false_iff]
    cases e : (lstB get a k).2.2 with
    | false => exact ⟨fun hh => (by cases hh.1), fun _ => hb _ (i2 e)⟩
    | true =>
      obtain ⟨v, g⟩ := i1 e
      obtain ⟨j1, j2⟩ := hs _ _ (jGF hn h0 k) g
      refine ⟨fun hh => ?_, fun hh => hh.elim (fun h => (by cases h)) j2⟩; obtain ⟨v2, g2⟩ := j1 hh.2; exact ⟨by rw [lstR, v, v2], g2⟩
end
def tkB {α : Type} (get : Int → α × Int × Bool) (b : List UInt8) (f a most : Int) : List α × Int × Bool :=
  if (rd8 b a f (askT 6 most)).2.2 then lstB get (rd8 b a f (askT 6 most)).2.1 (rd8 b a f (askT 6 most)).1.n.toNat else ([], 0, false)
theorem jId {α : Type} {get : Int → α × Int × Bool} {b : List UInt8} {f : Int} (hf : okF f = true) {gr : RdrD → α × RdrD} (hn : ∀ a, 0 ≤ a → 0 ≤ (get a).2.1) (hb : ∀ r, badP r = true → badP (gr r).2 = true)
    (hs : ∀ (r : RdrD) (a : Int), 0 ≤ a → RdG b f r a → ((get a).2.2 = true → (gr r).1 = (get a).1 ∧ RdG b f (gr r).2 (get a).2.1) ∧ ((get a).2.2 = false → badP (gr r).2 = true))
    {r : RdrD} {a most : Int} (hm : 0 ≤ most) (h0 : 0 ≤ a) (h : RdG b f r a) : ((tkB get b f a most).2.2 = true → (jB3 gr r most).1 = (tkB get b f a most).1 ∧ RdG b f (jB3 gr r most).2 (tkB get b f a most).2.1) ∧ ((tkB get b f a most).2.2 = false → badP (jB3 gr r most).2 = true) := by
  obtain ⟨c1, c2⟩ := jGs hf h hm
  unfold tkB
  cases e : (rd8 b a f (askT 6 most)).2.2 with
  | false =>
    rw [if_neg (by decide)]
    refine ⟨fun hh => (by cases hh), fun _ => ?_⟩
    have := jEY hb (k := 0) (show badP (lstR gr (jAJ r most).2 0).2 = true from c2 e) (jCV r most)
    rw [Nat.zero_add] at this; exact this
  | true =>
    rw [if_pos rfl]
    obtain ⟨v, g⟩ := c1 e
    have en : jCV r most = (rd8 b a f (askT 6 most)).1.n.toNat := by unfold jCV; rw [v]
    unfold jB3
    rw [en]
    exact jMF hn hb hs (jA0 h0) g _
def jG5 (b : List UInt8) (f a : Int) : TagD × Int × Bool := ((rd8 b a f (askT 3 0)).1.t, (rd8 b a f (askT 3 0)).2.1, (rd8 b a f (askT 3 0)).2.2)
theorem rd8_6 (b : List UInt8) (a f m : Int) : rd8 b a f (askT 6 m) = if ¬ (getN b a f).2.2 = 0 ∨ (getN b a f).1 < 0 ∨ m < (getN b a f).1 then (askT 6 m, 0, false) else ({ askT 6 m with n := (getN b a f).1 }, (getN b a f).2.1, true) := by
  unfold rd8
  rw [if_pos (.inr rfl)]
  simp only [askT, out8, true_and]
theorem jEe {b : List UInt8} {f a m : Int} (hf : okF f = true) {r : RdrD} (h : RdG b f r a) (hm : m ≤ 6) :
    ((rd8 b a f (askT 6 m)).2.2 = true → smP (numP r).1 = (rd8 b a f (askT 6 m)).1.n ∧ 0 ≤ (rd8 b a f (askT 6 m)).1.n ∧ (rd8 b a f (askT 6 m)).1.n ≤ m ∧ RdG b f (numP r).2 (rd8 b a f (askT 6 m)).2.1) ∧
    ((rd8 b a f (askT 6 m)).2.2 = false → badP (numP r).2 = true ∨ smP (numP r).1 < 0 ∨ m < smP (numP r).1) := by
  obtain ⟨c1, c2⟩ := jEI hf h
  rw [rd8_6]
  by_cases h1 : (getN b a f).2.2 = 0
  · obtain ⟨v, g⟩ := c1 h1
    by_cases h2 : (getN b a f).1 < 0 ∨ m < (getN b a f).1
    · rw [if_pos (.inr h2)]
      refine ⟨fun hh => (by cases hh), fun _ => .inr ?_⟩; rw [v]
      unfold smP
      split <;> omega
    rw [if_neg (by rintro (h | h); exact h h1; exact h2 h)]
    refine ⟨fun _ => ⟨?_, ?_, ?_, g⟩, fun hh => (by cases hh)⟩
    · rw [v]
      unfold smP
      rw [if_neg (by omega)]
    · show 0 ≤ (getN b a f).1
      omega
    show (getN b a f).1 ≤ m
    omega
  rw [if_pos (.inl h1)]
  exact ⟨fun hh => (by cases hh), fun _ => .inl (c2 h1).2⟩
section
variable {r : RdrD}
theorem bad_o2 (h : badP (o2 r) = true) : badP (endR r) = true := by
  unfold endR
  split
  · exact jFZ (fun _ => jDO) (jJV (badn h)) (by omega)
  split
  · exact jFZ (fun _ => jHy) h (by omega)
  split
  · exact jFZ (fun _ => jHU) h (by omega)
  split
  · exact jJV h
  exact h
theorem jGL (h : jBn (jBD r) = false) : okNt r = false := by unfold okNt; rw [h, Bool.and_false]
theorem jLG {n : NoteD} (h : jBn n = true) : 1 ≤ n.kind ∧ n.kind ≤ 4 := by
  unfold jBn at h
  grind
theorem jLn : (jBD r).kind = nk r := by unfold jBD; repeat (first | rfl | split)
theorem jLy : (jBD r).from_ = nfr r := by unfold jBD; repeat (first | rfl | split)
theorem jMI (h : nk r < 0 ∨ 4 < nk r) : okNt r = false := jGL (by
  cases e : jBn (jBD r) with
  | false => rfl
  | true => have := jLG e; rw [jLn] at this; omega)
theorem jMC (h : nfr r < 0 ∨ 6 < nfr r) : okNt r = false := jGL (by
  cases e : jBn (jBD r) with
  | false => rfl
  | true =>
    unfold jBn frB at e
    simp only [Bool.and_eq_true, decide_eq_true_eq] at e
    have := e.1
    rw [jLy] at this
    omega)
end
section
variable (b : List UInt8) (f : Int)
def m1 := rd8 b 0 f (askT 6 4)
def m2 := rd8 b (m1 b f).2.1 f (askT 6 6)
def m3 := rd8 b (m2 b f).2.1 f (askT 6 2)
def m4 := get4 b f (m3 b f).2.1
def v6 (v : VecD) : V6D := ⟨v.a, v.b, v.c, v.d, v.e, v.f⟩
def note1 : NoteD := ⟨1, (m2 b f).1.n, (m3 b f).1.n, v6 (m4 b f).1.v, (tkB (jG5 b f) b f (m4 b f).2.1 40).1, [], []⟩
def note2 : NoteD := ⟨2, (m2 b f).1.n, 0, z6, [], (tkB (jBd b f) b f (m2 b f).2.1 6).1, []⟩
def note3 : NoteD := ⟨3, (m2 b f).1.n, 0, z6, [], [], (tkB (jC7 b f) b f (m2 b f).2.1 6).1⟩
def note4 : NoteD := ⟨4, (m2 b f).1.n, 0, v6 (get4 b f (m2 b f).2.1).1.v, [], [], []⟩
def note0 : NoteD := ⟨0, (m2 b f).1.n, 0, z6, [], [], []⟩
end
theorem jKd {b : List UInt8} {f a : Int} (h0 : 0 ≤ a) : 0 ≤ (jC7 b f a).2.1 := by
  unfold jC7
  split
  · exact jJs h0 _
  exact Int.le_refl 0
theorem jM7 {r : RdrD} (hk : nk r = 1) : (jBD r).kind = 1 ∧ (jBD r).fmt = smP (numP (o2 r)).1 := by unfold jBD; rw [if_pos hk]; exact ⟨hk, rfl⟩
theorem noteR_ok {r : RdrD} (h : r.Ok) : (endR r).Ok := by
  have h1 : (o2 r).Ok := h.num.ok.num.ok
  unfold endR
  split
  · exact (jH8 (fun r h => jJl r h) (jHN h1.num.ok).ok 40).ok
  split
  · exact (jH8 (fun r h => jJY h) h1 6).ok
  split
  · exact (jH8 (fun r h => jHM h) h1 6).ok
  split
  · exact (jHN h1).ok
  exact h1
theorem end_len {b : List UInt8} {f a : Int} (hf : okF f = true) {r : RdrD} (h : RdG b f r a) (ho : r.Ok) : decide (endP r = 0) = decide (a = b.length) := by
  have h1 := ho.hi
  have h2 := h.at_
  have h3 := h.b
  have hb := RdG.nb hf h
  unfold endP jEu
  rw [hb]
  simp only [Bool.false_eq_true, if_false, false_or]
  rw [h2, h3]
  rw [h2, h3] at h1
  by_cases e : a = b.length
  · rw [if_neg (by omega), decide_eq_true e]; rfl
  rw [if_pos (by omega), decide_eq_false e]; rfl
section
variable {b : List UInt8} {f : Int} (hf : okF f = true) (hb : b.length ≤ 60000)
include hf hb
theorem nt_1 (h : (m1 b f).2.2 = false) : okNt (newR b f) = false := by
  rcases (jEe hf (jNe hf b) (m := 4) (by omega)).2 h with h1 | h1
  · exact jDG (bad_o2 (badn h1))
  exact jMI h1
theorem nt_2 (h1 : (m1 b f).2.2 = true) (h : (m2 b f).2.2 = false) : okNt (newR b f) = false := by
  obtain ⟨_, _, _, g⟩ := (jEe hf (jNe hf b) (m := 4) (by omega)).1 h1
  rcases (jEe hf g (m := 6) (by omega)).2 h with h1 | h1
  · exact jDG (bad_o2 h1)
  exact jMC h1
theorem nt_k (h1 : (m1 b f).2.2 = true) (h2 : (m2 b f).2.2 = true) : nk (newR b f) = (m1 b f).1.n ∧ nfr (newR b f) = (m2 b f).1.n ∧ 0 ≤ (m1 b f).1.n ∧ (m1 b f).1.n ≤ 4 ∧ RdG b f (o2 (newR b f)) (m2 b f).2.1 := by
  obtain ⟨a, c, d, g⟩ := (jEe hf (jNe hf b) (m := 4) (by omega)).1 h1
  obtain ⟨a2, c2, d2, g2⟩ := (jEe hf g (m := 6) (by omega)).1 h2
  exact ⟨a, a2, c, d, g2⟩
theorem jIt {n : NoteD} {a : Int} (e1 : jBD (newR b f) = n) (g : RdG b f (endR (newR b f)) a) : okNt (newR b f) = (decide (a = b.length) && jBn n) ∧ jBD (newR b f) = n := by
  refine ⟨?_, e1⟩
  unfold okNt
  rw [e1, end_len hf g (noteR_ok (jF7 (by omega) f))]
section
variable (h1 : (m1 b f).2.2 = true) (h2 : (m2 b f).2.2 = true)
include h1 h2
theorem nt_0 (hk : (m1 b f).1.n = 0) : okNt (newR b f) = (decide ((m2 b f).2.1 = b.length) && jBn (note0 b f)) ∧ jBD (newR b f) = note0 b f := by
  obtain ⟨k1, k2, _, _, g⟩ := nt_k hf hb h1 h2
  refine jIt hf hb ?_ ?_
  · unfold jBD; rw [k1, k2, hk]; rfl
  unfold endR; rw [k1, hk]; exact g
theorem nt_4 (hk : (m1 b f).1.n = 4) : ((get4 b f (m2 b f).2.1).2.2 = false → okNt (newR b f) = false) ∧ ((get4 b f (m2 b f).2.1).2.2 = true → okNt (newR b f) = (decide ((get4 b f (m2 b f).2.1).2.1 = b.length) && jBn (note4 b f)) ∧ jBD (newR b f) = note4 b f) := by
  obtain ⟨k1, k2, _, _, g⟩ := nt_k hf hb h1 h2
  obtain ⟨s1, s2⟩ := V_sim hf g
  have ee : endR (newR b f) = (jCp (o2 (newR b f))).2 := by unfold endR; rw [k1, hk]; rfl
  refine ⟨fun h => jDG (by rw [ee]; exact s2 h), fun h => ?_⟩; obtain ⟨v, g4⟩ := s1 h; refine jIt hf hb ?_ (by rw [ee]; exact g4)
  unfold jBD; rw [k1, k2, hk, v]; rfl
theorem nt_2e (hk : (m1 b f).1.n = 2) : ((tkB (jBd b f) b f (m2 b f).2.1 6).2.2 = false → okNt (newR b f) = false) ∧ ((tkB (jBd b f) b f (m2 b f).2.1 6).2.2 = true → okNt (newR b f) = (decide ((tkB (jBd b f) b f (m2 b f).2.1 6).2.1 = b.length) && jBn (note2 b f)) ∧ jBD (newR b f) = note2 b f) := by
  obtain ⟨k1, k2, _, _, g⟩ := nt_k hf hb h1 h2
  obtain ⟨s1, s2⟩ := jId hf (get := jBd b f) (gr := getE) (most := 6) (fun a h => jKD h) (fun _ => jHy) (fun r a h0 g => E_sim hf g) (by omega) (jA0 (jA0 (Int.le_refl 0))) g
  have ee : endR (newR b f) = (jB3 getE (o2 (newR b f)) 6).2 := by unfold endR; rw [k1, hk]; rfl
  refine ⟨fun h => jDG (by rw [ee]; exact s2 h), fun h => ?_⟩; obtain ⟨v, g4⟩ := s1 h; refine jIt hf hb ?_ (by rw [ee]; exact g4)
  unfold jBD; rw [k1, k2, hk, v]; rfl
theorem nt_3o (hk : (m1 b f).1.n = 3) : ((tkB (jC7 b f) b f (m2 b f).2.1 6).2.2 = false → okNt (newR b f) = false) ∧ ((tkB (jC7 b f) b f (m2 b f).2.1 6).2.2 = true → okNt (newR b f) = (decide ((tkB (jC7 b f) b f (m2 b f).2.1 6).2.1 = b.length) && jBn (note3 b f)) ∧ jBD (newR b f) = note3 b f) := by
  obtain ⟨k1, k2, _, _, g⟩ := nt_k hf hb h1 h2
  obtain ⟨s1, s2⟩ := jId hf (get := jC7 b f) (gr := getO) (most := 6) (fun a h => jKd h) (fun _ => jHU) (fun r a h0 g => O_sim hf g h0) (by omega) (jA0 (jA0 (Int.le_refl 0))) g
  have ee : endR (newR b f) = (jB3 getO (o2 (newR b f)) 6).2 := by unfold endR; rw [k1, hk]; rfl
  refine ⟨fun h => jDG (by rw [ee]; exact s2 h), fun h => ?_⟩; obtain ⟨v, g4⟩ := s1 h; refine jIt hf hb ?_ (by rw [ee]; exact g4)
  unfold jBD; rw [k1, k2, hk, v]; rfl
theorem nt_1t (hk : (m1 b f).1.n = 1) : ((m3 b f).2.2 = false → okNt (newR b f) = false) ∧ ((m3 b f).2.2 = true → (m4 b f).2.2 = false → okNt (newR b f) = false) ∧
    ((m3 b f).2.2 = true → (m4 b f).2.2 = true → (tkB (jG5 b f) b f (m4 b f).2.1 40).2.2 = false → okNt (newR b f) = false) ∧
    ((m3 b f).2.2 = true → (m4 b f).2.2 = true → (tkB (jG5 b f) b f (m4 b f).2.1 40).2.2 = true → okNt (newR b f) = (decide ((tkB (jG5 b f) b f (m4 b f).2.1 40).2.1 = b.length) && jBn (note1 b f)) ∧ jBD (newR b f) = note1 b f) := by
  obtain ⟨k1, k2, _, _, g⟩ := nt_k hf hb h1 h2
  have hk1 : nk (newR b f) = 1 := k1.trans hk
  have ee : endR (newR b f) = (jB3 jBo (o4 (newR b f)) 40).2 := by unfold endR; rw [if_pos hk1]
  obtain ⟨c1, c2⟩ := jEe hf g (m := 2) (by omega)
  refine ⟨fun h => ?_, fun h3 h => ?_, fun h3 h4 h => ?_, fun h3 h4 h => ?_⟩
  · rcases c2 h with h1 | h1
    · exact jDG (by rw [ee]; exact jFZ (fun _ => jDO) (jJV h1) (by omega))
    refine jGL ?_
    cases e : jBn (jBD (newR b f)) with
    | false => rfl
    | true =>
      obtain ⟨q1, q2⟩ := jM7 hk1
      unfold jBn at e
      rw [if_pos q1, q2] at e
      simp only [Bool.and_eq_true, Bool.or_eq_true, beq_iff_eq] at e
      omega
  all_goals obtain ⟨v3, _, _, g3⟩ := c1 h3
  all_goals obtain ⟨s1, s2⟩ := V_sim hf g3
  · exact jDG (by rw [ee]; exact jFZ (fun _ => jDO) (s2 h) (by omega))
  all_goals obtain ⟨v4, g4⟩ := s1 h4
  all_goals obtain ⟨t1, t2⟩ := jId hf (get := jG5 b f) (gr := jBo) (most := 40) (fun a h => jA0 h) (fun _ => jDO) (fun r a h0 g => jHc hf g) (by omega) (jLY (jA0 (jA0 (jA0 (Int.le_refl 0))))) g4
  · exact jDG (by rw [ee]; exact t2 h)
  obtain ⟨v5, g5⟩ := t1 h
  refine jIt hf hb ?_ (by rw [ee]; exact g5)
  unfold jBD
  rw [if_pos hk1, hk1, k2, v3]
  show NoteD.mk 1 _ _ (jCp (o3 (newR b f))).1 (jB3 jBo (o4 (newR b f)) 40).1 [] [] = _
  rw [show (jCp (o3 (newR b f))).1 = _ from v4, show (jB3 jBo (o4 (newR b f)) 40).1 = _ from v5]
  rfl
end
end
end Go.Proofs.YtlapcfnmmpbeeaaGreat
