/- A part of a proof. -/
import Derived.Test.YtlapcfnmmpbeeaaGreatPO37
import Derived.Test.YtlapcfnmmpbeeaaGreatPO39
set_option linter.unusedSimpArgs false
set_option linter.unusedVariables false
namespace Go.Proofs.YtlapcfnmmpbeeaaGreat
set_option maxRecDepth 100000
open Go.RowKit
theorem jIH {o : OpD} (h : jBs o = true) : 1 ≤ o.kind ∧ o.kind ≤ 5 := by
  have : (jBU o).2 = true := by
    unfold jBs at h
    simp only [Bool.and_eq_true] at h
    grind
  unfold jBU at this
  grind
theorem jFQ {r : RdrD} (h : badP (q12 r) = true ∨ jBs (rawO r) = false) : (getO r).1 = jDz ∧ badP (getO r).2 = true := by
  unfold getO
  by_cases h1 : badP (q12 r) = true
  · rw [if_pos h1]; exact ⟨rfl, h1⟩
  rw [if_neg h1, if_neg (by rcases h with h | h <;> simp_all)]
  exact ⟨rfl, rfl⟩
section
variable {r : RdrD}
theorem qb11 (h : badP (q11 r) = true) : badP (q12 r) = true := jKI h _
theorem qb10 (h : badP (q10 r) = true) : badP (q12 r) = true := qb11 (jFP h (by omega))
theorem qb9 (h : badP (q9 r) = true) : badP (q12 r) = true := qb10 (badt (by omega) h)
theorem qb8 (h : badP (q8 r) = true) : badP (q12 r) = true := qb9 (bad_flag h)
theorem qb7 (h : badP (q7 r) = true) : badP (q12 r) = true := qb8 (badn h)
theorem qb6 (h : badP (q6 r) = true) : badP (q12 r) = true := qb7 (jJR h)
theorem qb5 (h : badP (q5 r) = true) : badP (q12 r) = true := qb6 (badt (by omega) h)
theorem qb4 (h : badP (q4 r) = true) : badP (q12 r) = true := qb5 (badn h)
theorem qb3 (h : badP (q3 r) = true) : badP (q12 r) = true := qb4 (badt (by omega) h)
theorem qb2 (h : badP (q2 r) = true) : badP (q12 r) = true := qb3 (badn h)
theorem qb1 (h : badP (q1 r) = true) : badP (q12 r) = true := qb2 (jDO h)
theorem qb0 (h : badP r = true) : badP (q12 r) = true := qb1 (jDO h)
theorem jHU (h : badP r = true) : badP (getO r).2 = true := (jFQ (.inl (qb0 h))).2
theorem jHM (h : r.Ok) : r.Of (getO r).2 := by
  unfold getO
  split
  · exact jLg h
  split
  · exact jLg h
  exact (jLg h).trans (jLg h).ok.spoil
end
theorem jIq {b : List UInt8} {f a : Int} (hf : okF f = true) {r : RdrD} (h : RdG b f r (st8 b f a 11)) : ∀ k, ((dst8 b f a k).2.2 = true → (jEb k r).1 = (dst8 b f a k).1 ∧ RdG b f (jEb k r).2 (dst8 b f a k).2.1) ∧ ((dst8 b f a k).2.2 = false → badP (jEb k r).2 = true)
  | 0 => ⟨fun _ => ⟨rfl, h⟩, fun h => (by cases h)⟩
  | k + 1 => by
    obtain ⟨i1, i2⟩ := jIq hf h k
    rw [dst8]
    simp only [Bool.and_eq_true, Bool.and_eq_false_iff]
    cases e : (dst8 b f a k).2.2 with
    | false => exact ⟨fun hh => (by cases hh.1), fun _ => jDO (i2 e)⟩
    | true =>
      obtain ⟨v, g⟩ := i1 e
      obtain ⟨j1, j2⟩ := jHc hf g
      refine ⟨fun hh => ?_, fun hh => hh.elim (fun h => (by cases h)) j2⟩; obtain ⟨v2, g2⟩ := j1 hh.2; exact ⟨by rw [jEb, v, v2], g2⟩
theorem O_sim {b : List UInt8} {f a : Int} (hf : okF f = true) {r : RdrD} (g0 : RdG b f r a) (ha : 0 ≤ a) : ((jC7 b f a).2.2 = true → (getO r).1 = (jC7 b f a).1 ∧ RdG b f (getO r).2 (jC7 b f a).2.1) ∧ ((jC7 b f a).2.2 = false → badP (getO r).2 = true) := by
  have no' : (∃ i, i < 11 ∧ ok8 b f a i = false) ∨ (dst8 b f a (dn8 b f a)).2.2 = false ∨ jBs (jHP b f a) = false → badP (getO r).2 = true → ((jC7 b f a).2.2 = true → (getO r).1 = (jC7 b f a).1 ∧ RdG b f (getO r).2 (jC7 b f a).2.1) ∧ ((jC7 b f a).2.2 = false → badP (getO r).2 = true) := fun h1 h2 => by
    rw [jGt (fun hh => by
      rcases h1 with ⟨i, hi, h1⟩ | h1 | h1
      · have := List.all_eq_true.1 hh.1 i (List.mem_range.2 hi); rw [h1] at this; cases this
      · rw [h1] at hh; cases hh.2.1
      rw [h1] at hh; cases hh.2.2)]
    exact ⟨fun h => (by cases h), fun _ => h2⟩
  have no : ∀ i, i < 11 → ok8 b f a i = false → badP (q12 r) = true → ((jC7 b f a).2.2 = true → (getO r).1 = (jC7 b f a).1 ∧ RdG b f (getO r).2 (jC7 b f a).2.1) ∧ ((jC7 b f a).2.2 = false → badP (getO r).2 = true) := fun i hi h1 h2 => no' (.inl ⟨i, hi, h1⟩) (jFQ (.inl h2)).2
  have s0 : (ok8 b f a 0 = true → (jBo r).1 = (x8 b f a 0).t ∧ RdG b f (q1 r) (st8 b f a 1)) ∧ (ok8 b f a 0 = false → badP (q1 r) = true) := jHc hf g0
  cases e0 : ok8 b f a 0 with
  | false => exact no 0 (by omega) e0 (qb1 (s0.2 e0))
  | true =>
  obtain ⟨v0, g1⟩ := s0.1 e0
  have s1 : (ok8 b f a 1 = true → (jBo (q1 r)).1 = (x8 b f a 1).t ∧ RdG b f (q2 r) (st8 b f a 2)) ∧ (ok8 b f a 1 = false → badP (q2 r) = true) := jHc hf g1
  cases e1 : ok8 b f a 1 with
  | false => exact no 1 (by omega) e1 (qb2 (s1.2 e1))
  | true =>
  obtain ⟨v1, g2⟩ := s1.1 e1
  have s2 : (ok8 b f a 2 = true → (numP (q2 r)).1 = (x8 b f a 2).n ∧ RdG b f (q3 r) (st8 b f a 3)) ∧ (ok8 b f a 2 = false → badP (q3 r) = true) := rd_n hf g2
  cases e2 : ok8 b f a 2 with
  | false => exact no 2 (by omega) e2 (qb3 (s2.2 e2))
  | true =>
  obtain ⟨v2, g3⟩ := s2.1 e2
  have s3 : (ok8 b f a 3 = true → (jAH (q3 r) 12).1 = (x8 b f a 3).s ∧ RdG b f (q4 r) (st8 b f a 4)) ∧ (ok8 b f a 3 = false → badP (q4 r) = true) := rd_s hf g3 (by omega)
  cases e3 : ok8 b f a 3 with
  | false => exact no 3 (by omega) e3 (qb4 (s3.2 e3))
  | true =>
  obtain ⟨v3, g4⟩ := s3.1 e3
  have s4 : (ok8 b f a 4 = true → (numP (q4 r)).1 = (x8 b f a 4).n ∧ RdG b f (q5 r) (st8 b f a 5)) ∧ (ok8 b f a 4 = false → badP (q5 r) = true ∨ (numP (q4 r)).1 < 0 ∨ 5 < (numP (q4 r)).1) := jMH hf g4 (by omega)
  cases e4 : ok8 b f a 4 with
  | false =>
    rcases s4.2 e4 with h | h
    · exact no 4 (by omega) e4 (qb5 h)
    exact no' (.inl ⟨4, by omega, e4⟩) (jFQ (.inr (Bool.eq_false_iff.2 fun hr => by have h1 : 1 ≤ (numP (q4 r)).1 ∧ (numP (q4 r)).1 ≤ 5 := jIH hr; omega))).2
  | true =>
  obtain ⟨v4, g5⟩ := s4.1 e4
  have s5 : (ok8 b f a 5 = true → (jAH (q5 r) 12).1 = (x8 b f a 5).s ∧ RdG b f (q6 r) (st8 b f a 6)) ∧ (ok8 b f a 5 = false → badP (q6 r) = true) := rd_s hf g5 (by omega)
  cases e5 : ok8 b f a 5 with
  | false => exact no 5 (by omega) e5 (qb6 (s5.2 e5))
  | true =>
  obtain ⟨v5, g6⟩ := s5.1 e5
  have s6 : (ok8 b f a 6 = true → (jCb (q6 r)).1 = (x8 b f a 6).r ∧ RdG b f (q7 r) (st8 b f a 7)) ∧ (ok8 b f a 6 = false → badP (q7 r) = true) := jMT hf g6
  cases e6 : ok8 b f a 6 with
  | false => exact no 6 (by omega) e6 (qb7 (s6.2 e6))
  | true =>
  obtain ⟨v6, g7⟩ := s6.1 e6
  have s7 : (ok8 b f a 7 = true → (numP (q7 r)).1 = (x8 b f a 7).n ∧ RdG b f (q8 r) (st8 b f a 8)) ∧ (ok8 b f a 7 = false → badP (q8 r) = true) := rd_n hf g7
  cases e7 : ok8 b f a 7 with
  | false => exact no 7 (by omega) e7 (qb8 (s7.2 e7))
  | true =>
  obtain ⟨v7, g8⟩ := s7.1 e7
  have s8 : (ok8 b f a 8 = true → (jCR (q8 r)).1 = (x8 b f a 8).f ∧ RdG b f (q9 r) (st8 b f a 9)) ∧ (ok8 b f a 8 = false → badP (q9 r) = true) := rd_flag hf g8 (jKR ha 8)
  cases e8 : ok8 b f a 8 with
  | false => exact no 8 (by omega) e8 (qb9 (s8.2 e8))
  | true =>
  obtain ⟨v8, g9⟩ := s8.1 e8
  have s9 : (ok8 b f a 9 = true → (jAH (q9 r) 40).1 = (x8 b f a 9).s ∧ RdG b f (q10 r) (st8 b f a 10)) ∧ (ok8 b f a 9 = false → badP (q10 r) = true) := rd_s hf g9 (by omega)
  cases e9 : ok8 b f a 9 with
  | false => exact no 9 (by omega) e9 (qb10 (s9.2 e9))
  | true =>
  obtain ⟨v9, g10⟩ := s9.1 e9
  have s10 : (ok8 b f a 10 = true → (jAJ (q10 r) 60).1 = (x8 b f a 10).n ∧ RdG b f (q11 r) (st8 b f a 11)) ∧ (ok8 b f a 10 = false → badP (q11 r) = true) := jGs hf g10 (by omega)
  cases e10 : ok8 b f a 10 with
  | false => exact no 10 (by omega) e10 (qb11 (s10.2 e10))
  | true =>
  obtain ⟨v10, g11⟩ := s10.1 e10
  have hq : qn r = dn8 b f a := by unfold qn dn8; rw [v10]
  obtain ⟨t1, t2⟩ := jIq hf g11 (dn8 b f a)
  cases e : (dst8 b f a (dn8 b f a)).2.2 with
  | false => exact no' (.inr (.inl e)) (jFQ (.inl (by unfold q12; rw [hq]; exact t2 e))).2
  | true =>
  obtain ⟨t3, t4⟩ := t1 e
  have hraw : rawO r = jHP b f a := by unfold rawO jHP; rw [v0, v1, v2, v3, v4, v5, v6, v7, v8, v9, hq, t3]
  have g12 : RdG b f (q12 r) (dst8 b f a (dn8 b f a)).2.1 := by unfold q12; rw [hq]; exact t4
  have hnb := RdG.nb hf g12
  cases er : jBs (jHP b f a) with
  | false => exact no' (.inr (.inr er)) (jFQ (.inr (by rw [hraw]; exact er))).2
  | true =>
  have hgo : getO r = (rawO r, q12 r) := by
    unfold getO
    rw [hnb, if_neg (by decide), if_pos (by rw [hraw]; exact er)]
  have hall : (List.range 11).all (ok8 b f a) = true := by
    rw [List.all_eq_true]
    intro i hi
    have hi := List.mem_range.1 hi
    match i, hi with
    | 0, _ => exact e0
    | 1, _ => exact e1
    | 2, _ => exact e2
    | 3, _ => exact e3
    | 4, _ => exact e4
    | 5, _ => exact e5
    | 6, _ => exact e6
    | 7, _ => exact e7
    | 8, _ => exact e8
    | 9, _ => exact e9
    | 10, _ => exact e10
    | n + 11, h => exact absurd h (by omega)
  rw [show jC7 b f a = (jHP b f a, (dst8 b f a (dn8 b f a)).2.1, true) from if_pos ⟨hall, e, er⟩, hgo]
  exact ⟨fun _ => ⟨hraw, g12⟩, fun h => (by cases h)⟩
def vn (r : RdrD) : Nat → RdrD
  | 0 => r
  | k + 1 => (numP (vn r k)).2
def vrawP (r : RdrD) : V6D := ⟨(numP (vn r 0)).1, (numP (vn r 1)).1, (numP (vn r 2)).1, (numP (vn r 3)).1, (numP (vn r 4)).1, (numP (vn r 5)).1⟩
def jCp (r : RdrD) : V6D × RdrD := if badP (vn r 6) then (z6, vn r 6) else (vrawP r, vn r 6)
theorem jI1 {r : RdrD} (h : r.Ok) : ∀ k, r.Of (vn r k)
  | 0 => h.of
  | k + 1 => (jI1 h k).trans (jI1 h k).ok.num
theorem jHN {r : RdrD} (h : r.Ok) : r.Of (jCp r).2 := by
  unfold jCp
  split <;> exact jI1 h 6
theorem bad_vn {r : RdrD} (h : badP r = true) : ∀ k, badP (vn r k) = true
  | 0 => h
  | k + 1 => badn (bad_vn h k)
theorem jJV {r : RdrD} (h : badP r = true) : badP (jCp r).2 = true := by
  unfold jCp
  split <;> exact bad_vn h 6
def lstR {α : Type} (get : RdrD → α × RdrD) (r : RdrD) : Nat → List α × RdrD
  | 0 => ([], r)
  | k + 1 => ((lstR get r k).1 ++ [(get (lstR get r k).2).1], (get (lstR get r k).2).2)
def jCV (r : RdrD) (most : Int) : Nat := (jAJ r most).1.toNat
def jB3 {α : Type} (get : RdrD → α × RdrD) (r : RdrD) (most : Int) : List α × RdrD := lstR get (jAJ r most).2 (jCV r most)
section
variable {α : Type} {get : RdrD → α × RdrD}
theorem jGv (r : RdrD) : ∀ k, (lstR get r k).1.length = k
  | 0 => rfl
  | k + 1 => by rw [lstR, List.length_append, jGv r k]; rfl
theorem jEs (hg : ∀ r : RdrD, r.Ok → r.Of (get r).2) {r : RdrD} (h : r.Ok) : ∀ k, r.Of (lstR get r k).2
  | 0 => h.of
  | k + 1 => (jEs hg h k).trans (hg _ (jEs hg h k).ok)
theorem jH8 (hg : ∀ r : RdrD, r.Ok → r.Of (get r).2) {r : RdrD} (h : r.Ok) (most : Int) : r.Of (jB3 get r most).2 := (h.count most).trans (jEs hg (h.count most).ok _)
theorem jEY (hb : ∀ r, badP r = true → badP (get r).2 = true) {r : RdrD} {k : Nat} (h : badP (lstR get r k).2 = true) : ∀ j, badP (lstR get r (k + j)).2 = true
  | 0 => h
  | j + 1 => hb _ (jEY hb h j)
theorem jFZ (hb : ∀ r, badP r = true → badP (get r).2 = true) {r : RdrD} (h : badP r = true) {most : Int} (hm : 0 ≤ most) : badP (jB3 get r most).2 = true := by
  have := jEY hb (k := 0) (show badP (lstR get (jAJ r most).2 0).2 = true from jFP h hm) (jCV r most)
  rw [Nat.zero_add] at this; exact this
end
def smP (z : Int) : Int := if z < 0 ∨ 6 < z then -1 else z
section
variable (r : RdrD)
def o1 : RdrD := (numP r).2
def o2 : RdrD := (numP (o1 r)).2
def o3 : RdrD := (numP (o2 r)).2
def o4 : RdrD := (jCp (o3 r)).2
def nk : Int := smP (numP r).1
def nfr : Int := smP (numP (o1 r)).1
def jBD : NoteD :=
  if nk r = 1 then ⟨nk r, nfr r, smP (numP (o2 r)).1, (jCp (o3 r)).1, (jB3 jBo (o4 r) 40).1, [], []⟩
  else if nk r = 2 then ⟨nk r, nfr r, 0, z6, [], (jB3 getE (o2 r) 6).1, []⟩
  else if nk r = 3 then ⟨nk r, nfr r, 0, z6, [], [], (jB3 getO (o2 r) 6).1⟩
  else if nk r = 4 then ⟨nk r, nfr r, 0, (jCp (o2 r)).1, [], [], []⟩
  else ⟨nk r, nfr r, 0, z6, [], [], []⟩
def endR : RdrD :=
  if nk r = 1 then (jB3 jBo (o4 r) 40).2
  else if nk r = 2 then (jB3 getE (o2 r) 6).2
  else if nk r = 3 then (jB3 getO (o2 r) 6).2
  else if nk r = 4 then (jCp (o2 r)).2
  else o2 r
def okNt : Bool := decide (endP (endR r) = 0) && jBn (jBD r)
end
theorem jJl (r : RdrD) (h : r.Ok) : r.Of (jBo r).2 := h.tag
theorem jDG {r : RdrD} (h : badP (endR r) = true) : okNt r = false := by
  unfold okNt endP
  rw [if_pos (.inl h)]; rfl
set_option maxRecDepth 100000
def va (b : List UInt8) (f a : Int) : Nat → Int
  | 0 => a
  | k + 1 => (getN b (va b f a k) f).2.1
def vok (b : List UInt8) (f a : Int) (k : Nat) : Bool := (getN b (va b f a k) f).2.2 = 0
def ok4 (b : List UInt8) (f a : Int) : Bool := vok b f a 0 && vok b f a 1 && vok b f a 2 && vok b f a 3 && vok b f a 4 && vok b f a 5
def vraw4 (b : List UInt8) (f a : Int) : VecD := ⟨(getN b (va b f a 0) f).1, (getN b (va b f a 1) f).1, (getN b (va b f a 2) f).1, (getN b (va b f a 3) f).1, (getN b (va b f a 4) f).1, (getN b (va b f a 5) f).1⟩
def get4 (b : List UInt8) (f a : Int) : ThingD × Int × Bool := if ok4 b f a then ({ askT 4 0 with v := vraw4 b f a }, va b f a 6, true) else (askT 4 0, 0, false)
theorem jFm {b : List UInt8} {f a : Int} (h : ¬ ok4 b f a = true) : get4 b f a = (askT 4 0, 0, false) := if_neg h
theorem va_nn {b : List UInt8} {f a : Int} (h0 : 0 ≤ a) (k : Nat) (h : ∀ i, i < k → vok b f a i = true) : 0 ≤ va b f a k := by
  cases k with
  | zero => exact h0
  | succ k =>
    have := h k (by omega)
    unfold vok at this
    obtain ⟨h1, h2, _⟩ := jGe (of_decide_eq_true this)
    show 0 ≤ (getN b (va b f a k) f).2.1
    omega
theorem ok4_at {b : List UInt8} {f a : Int} : ok4 b f a = true ↔ ∀ i, i < 6 → vok b f a i = true := by
  unfold ok4
  simp only [Bool.and_eq_true]
  constructor
  · rintro ⟨⟨⟨⟨⟨h0, h1⟩, h2⟩, h3⟩, h4⟩, h5⟩ i hi
    match i, hi with
    | 0, _ => exact h0
    | 1, _ => exact h1
    | 2, _ => exact h2
    | 3, _ => exact h3
    | 4, _ => exact h4
    | 5, _ => exact h5
  intro h; exact ⟨⟨⟨⟨⟨h 0 (by omega), h 1 (by omega)⟩, h 2 (by omega)⟩, h 3 (by omega)⟩, h 4 (by omega)⟩, h 5 (by omega)⟩
theorem jLY {b : List UInt8} {f a : Int} (h0 : 0 ≤ a) : 0 ≤ (get4 b f a).2.1 := by
  unfold get4
  split
  · rename_i h; exact va_nn h0 6 (ok4_at.1 h)
  exact Int.le_refl 0
theorem vstep {b : List UInt8} {f a : Int} (hf : okF f = true) {r : RdrD} (h : RdG b f r a) : ∀ k, ((∀ i, i < k → vok b f a i = true) → RdG b f (vn r k) (va b f a k)) ∧ ((∃ i, i < k ∧ vok b f a i = false) → badP (vn r k) = true)
  | 0 => ⟨fun _ => h, fun ⟨i, hi, _⟩ => absurd hi (by omega)⟩
  | k + 1 => by
    obtain ⟨i1, i2⟩ := vstep hf h k
    constructor
    · intro hk
      have g := i1 (fun i hi => hk i (by omega))
      have := hk k (by omega)
      unfold vok at this
      exact ((jEI hf g).1 (of_decide_eq_true this)).2
    rintro ⟨i, hi, e⟩
    by_cases hk : ∃ i, i < k ∧ vok b f a i = false
    · exact badn (i2 hk)
    have ha : ∀ i, i < k → vok b f a i = true := fun j hj => by
      cases e2 : vok b f a j with
      | true => rfl
      | false => exact absurd ⟨j, hj, e2⟩ hk
    have : i = k := by
      by_cases h2 : i < k
      · rw [ha i h2] at e; cases e
      omega
    subst this
    unfold vok at e
    exact ((jEI hf (i1 ha)).2 (of_decide_eq_false e)).2
theorem V_sim {b : List UInt8} {f a : Int} (hf : okF f = true) {r : RdrD} (h : RdG b f r a) : ((get4 b f a).2.2 = true → (jCp r).1 = ⟨(get4 b f a).1.v.a, (get4 b f a).1.v.b, (get4 b f a).1.v.c, (get4 b f a).1.v.d, (get4 b f a).1.v.e, (get4 b f a).1.v.f⟩ ∧ RdG b f (jCp r).2 (get4 b f a).2.1) ∧ ((get4 b f a).2.2 = false → badP (jCp r).2 = true) := by
  by_cases ho : ok4 b f a = true
  · rw [get4, if_pos ho]
    refine ⟨fun _ => ?_, fun hh => (by cases hh)⟩
    have hv := ok4_at.1 ho
    have gk : ∀ k, k ≤ 6 → RdG b f (vn r k) (va b f a k) := fun k hk => (vstep hf h k).1 (fun i hi => hv i (by omega))
    have g6 := gk 6 (by omega)
    have nk : ∀ k, k < 6 → (numP (vn r k)).1 = (getN b (va b f a k) f).1 := fun k hk => by
      have := hv k hk
      unfold vok at this
      exact ((jEI hf (gk k (by omega))).1 (of_decide_eq_true this)).1
    unfold jCp
    rw [RdG.nb hf g6, if_neg (by decide)]
    refine ⟨?_, g6⟩
    unfold vrawP
    rw [nk 0 (by omega), nk 1 (by omega), nk 2 (by omega), nk 3 (by omega), nk 4 (by omega), nk 5 (by omega)]
    rfl
  rw [jFm ho]
  refine ⟨fun hh => (by cases hh), fun _ => ?_⟩
  have : ∃ i, i < 6 ∧ vok b f a i = false := by
    refine Classical.byContradiction fun hn => ho (ok4_at.2 fun i hi => ?_)
    cases e2 : vok b f a i with
    | true => rfl
    | false => exact absurd ⟨i, hi, e2⟩ hn
  have hb := (vstep hf h 6).2 this
  unfold jCp
  rw [if_pos hb]
  exact hb
section
variable (b : List UInt8) (f : Int) (hb : b.length ≤ 1099511627776)
include hb
set_option maxHeartbeats 2000000 in
theorem jMG (a : Int) : AC Tryz.prog 118 [.sl (byA b), .sc (.int .i64 a), .sc (.int .i64 f), (askT 4 0).av] (fun r => r = .s (.tu [.ag [AI ((get4 b f a).1).kind, AI ((get4 b f a).1).n, AS ((get4 b f a).1).s, AB ((get4 b f a).1).f, AI ((get4 b f a).1).t.rep, AI ((get4 b f a).1).t.n, AI ((get4 b f a).1).v.a, AI ((get4 b f a).1).v.b, AI ((get4 b f a).1).v.c, AI ((get4 b f a).1).v.d, AI ((get4 b f a).1).v.e, AI ((get4 b f a).1).v.f, AI ((get4 b f a).1).r.scope, AS ((get4 b f a).1).r.group, AS ((get4 b f a).1).r.name, AI ((get4 b f a).1).most], AI (get4 b f a).2.1, AB (get4 b f a).2.2])) := by
  have e0 : ∀ k, vok b f a k = decide ((getN b (va b f a k) f).2.2 = 0) := fun _ => rfl
  change AC _ _ [.sl (byA b), .sc (.int .i64 a), .sc (.int .i64 f), .ag [AI 4, AI 0, AS [], AB false, AI 0, AI 0, AI 0, AI 0, AI 0, AI 0, AI 0, AI 0, AI 0, AS [], AS [], AI 0]] _; refine AC.of' 214 3 Tryz.func118 rfl ?_; change AW _ _ _ _ [TK.mk 0 .off, TK.mk 0 .off, TK.mk 0 .off]; refine AW.g (AL.oq (AOpB.op (oB 0 ?_))); refine AL.n ?_; refine AL.oq (AOpB.op (oA 1 jAq ?_)); refine AL.n ?_; (iterate 2 refine AL.ra ?_); refine AL.nil (AW.g (AL.r (qa jCo) ?_)); refine AL.r (ql ag_3) ?_; refine AL.r (qa jCG) ?_; refine AL.r (ql ag_3) ?_; refine AL.r (qB jAO jAq) ?_; refine AL.oq (AOpB.op (oA 2 jAq ?_)); refine AL.n ?_; refine AL.oq (oS jAA ?_); refine AL.n ?_; refine AL.nil (AW.seq (AW.g (AL.r (qa jCo) ?_))); refine AL.r (ql ag_3) ?_; refine AL.nil (AW.block (AW.seq (AW.g (AL.r qb ?_)))); refine AL.ra ?_; refine AL.nil (AW.cond_f rfl (AW.region (AL.r qb ?_))); refine AL.ra ?_; refine AL.nil (AW.cond_f rfl (AW.g (AL.r qb ?_))); refine AL.ra ?_; refine AL.nil (AW.cond_f rfl (AW.g ?_))
  refine AL.r qb ?_; refine AL.ra ?_; refine AL.nil (AW.cond_f rfl (AW.g (AL.r qb ?_))); refine AL.ra ?_; refine AL.nil (AW.cond_f rfl (AW.g (AL.r qb ?_))); refine AL.ra ?_; refine AL.nil (AW.cond_t rfl (AW.seq (AW.g (AL.ra ?_)))); refine AL.nil (AW.block (AW.unroll 7 ?_)); change AW _ _ _ _ _; refine AW.seq (AW.g (AL.rm ?_)); refine AL.r qb ?_; refine AL.nil (AW.cond_t rfl (AW.skip (AW.seq (AW.block (AW.g ?_))))); (iterate 3 refine AL.rm ?_); refine AL.cl (jCK b (va b f a 0) f (by omega)) ?_; refine AL.n ?_; refine AL.rm ?_; refine AL.r qe ?_; refine AL.r qe ?_; refine AL.r qe ?_; (iterate 3 refine AL.ra ?_); refine AL.nil (AW.seq (AW.g (AL.rm ?_))); refine AL.r qb ?_; refine AL.nil (AW.cd rfl (fun h162 => ?_) (fun h162 => ?_))
  ·refine AW.g (AL.r (qa jCo) ?_); refine AL.r (ql ag_3) ?_; refine AL.r (qa jCG) ?_; refine AL.r (ql ag_3) ?_; refine AL.r (qB jAO jAq) ?_; refine AL.oq (oS jAA ?_); refine AL.n ?_; (iterate 2 refine AL.ra ?_); refine AL.nil (AW.ret ?_); refine r3 jAE ?_; rw [jFm (by unfold ok4; simp only [e0]; simp_all)]; rfl
  refine AW.skip (AW.g ?_); (iterate 2 refine AL.rm ?_); refine AL.r (qa jD5) ?_; refine AL.r (jAx 0 rfl jBS rfl rfl rfl) ?_; refine AL.oq (oS sz_3 ?_); refine AL.n ?_; refine AL.nil (AW.region (AL.rm ?_)); refine AL.ra ?_; refine AL.nil (AW.region (AL.rm ?_)); refine AL.r (jAj rfl rfl rfl (rfl : _ = (1 : Int))) ?_; refine AL.ra ?_; refine AL.nil (AW.seq (AW.g (AL.rm ?_))); refine AL.r qb ?_; refine AL.nil (AW.cond_t rfl (AW.skip (AW.seq (AW.block (AW.g ?_)))))
  (iterate 3 refine AL.rm ?_); refine AL.cl (jCK b (va b f a 1) f (by omega)) ?_; refine AL.n ?_; refine AL.rm ?_; refine AL.r qe ?_; refine AL.r qe ?_; refine AL.r qe ?_; (iterate 3 refine AL.ra ?_); refine AL.nil (AW.seq (AW.g (AL.rm ?_))); refine AL.r qb ?_; refine AL.nil (AW.cd rfl (fun h162 => ?_) (fun h162 => ?_))
  ·refine AW.g (AL.r (qa jCo) ?_); refine AL.r (ql ag_3) ?_; refine AL.r (qa jCG) ?_; refine AL.r (ql ag_3) ?_; refine AL.r (qB jAO jAq) ?_; refine AL.oq (oS jAA ?_); refine AL.n ?_; (iterate 2 refine AL.ra ?_); refine AL.nil (AW.ret ?_); refine r3 jAE ?_; rw [jFm (by unfold ok4; simp only [e0]; simp_all)]; rfl
  refine AW.skip (AW.g ?_); (iterate 2 refine AL.rm ?_); refine AL.r (qa jD5) ?_; refine AL.r (jAx 1 rfl jBS rfl rfl rfl) ?_; refine AL.oq (oS sz_3 ?_); refine AL.n ?_; refine AL.nil (AW.region (AL.rm ?_)); refine AL.ra ?_; refine AL.nil (AW.region (AL.rm ?_)); refine AL.r (jAj rfl rfl rfl (rfl : _ = (2 : Int))) ?_; refine AL.ra ?_; refine AL.nil (AW.seq (AW.g (AL.rm ?_))); refine AL.r qb ?_; refine AL.nil (AW.cond_t rfl (AW.skip (AW.seq (AW.block (AW.g ?_)))))
  (iterate 3 refine AL.rm ?_); refine AL.cl (jCK b (va b f a 2) f (by omega)) ?_; refine AL.n ?_; refine AL.rm ?_; refine AL.r qe ?_; refine AL.r qe ?_; refine AL.r qe ?_; (iterate 3 refine AL.ra ?_); refine AL.nil (AW.seq (AW.g (AL.rm ?_))); refine AL.r qb ?_; refine AL.nil (AW.cd rfl (fun h162 => ?_) (fun h162 => ?_))
  ·refine AW.g (AL.r (qa jCo) ?_); refine AL.r (ql ag_3) ?_; refine AL.r (qa jCG) ?_; refine AL.r (ql ag_3) ?_; refine AL.r (qB jAO jAq) ?_; refine AL.oq (oS jAA ?_); refine AL.n ?_; (iterate 2 refine AL.ra ?_); refine AL.nil (AW.ret ?_); refine r3 jAE ?_; rw [jFm (by unfold ok4; simp only [e0]; simp_all)]; rfl
  refine AW.skip (AW.g ?_); (iterate 2 refine AL.rm ?_); refine AL.r (qa jD5) ?_; refine AL.r (jAx 2 rfl jBS rfl rfl rfl) ?_; refine AL.oq (oS sz_3 ?_); refine AL.n ?_; refine AL.nil (AW.region (AL.rm ?_)); refine AL.ra ?_; refine AL.nil (AW.region (AL.rm ?_)); refine AL.r (jAj rfl rfl rfl (rfl : _ = (3 : Int))) ?_; refine AL.ra ?_; refine AL.nil (AW.seq (AW.g (AL.rm ?_))); refine AL.r qb ?_; refine AL.nil (AW.cond_t rfl (AW.skip (AW.seq (AW.block (AW.g ?_)))))
  (iterate 3 refine AL.rm ?_); refine AL.cl (jCK b (va b f a 3) f (by omega)) ?_; refine AL.n ?_; refine AL.rm ?_; refine AL.r qe ?_; refine AL.r qe ?_; refine AL.r qe ?_; (iterate 3 refine AL.ra ?_); refine AL.nil (AW.seq (AW.g (AL.rm ?_))); refine AL.r qb ?_; refine AL.nil (AW.cd rfl (fun h162 => ?_) (fun h162 => ?_))
  ·refine AW.g (AL.r (qa jCo) ?_); refine AL.r (ql ag_3) ?_; refine AL.r (qa jCG) ?_; refine AL.r (ql ag_3) ?_; refine AL.r (qB jAO jAq) ?_; refine AL.oq (oS jAA ?_); refine AL.n ?_; (iterate 2 refine AL.ra ?_); refine AL.nil (AW.ret ?_); refine r3 jAE ?_; rw [jFm (by unfold ok4; simp only [e0]; simp_all)]; rfl
  refine AW.skip (AW.g ?_); (iterate 2 refine AL.rm ?_); refine AL.r (qa jD5) ?_; refine AL.r (jAx 3 rfl jBS rfl rfl rfl) ?_; refine AL.oq (oS sz_3 ?_); refine AL.n ?_; refine AL.nil (AW.region (AL.rm ?_)); refine AL.ra ?_; refine AL.nil (AW.region (AL.rm ?_)); refine AL.r (jAj rfl rfl rfl (rfl : _ = (4 : Int))) ?_; refine AL.ra ?_; refine AL.nil (AW.seq (AW.g (AL.rm ?_))); refine AL.r qb ?_; refine AL.nil (AW.cond_t rfl (AW.skip (AW.seq (AW.block (AW.g ?_)))))
  (iterate 3 refine AL.rm ?_); refine AL.cl (jCK b (va b f a 4) f (by omega)) ?_; refine AL.n ?_; refine AL.rm ?_; refine AL.r qe ?_; refine AL.r qe ?_; refine AL.r qe ?_; (iterate 3 refine AL.ra ?_); refine AL.nil (AW.seq (AW.g (AL.rm ?_))); refine AL.r qb ?_; refine AL.nil (AW.cd rfl (fun h162 => ?_) (fun h162 => ?_))
  ·refine AW.g (AL.r (qa jCo) ?_); refine AL.r (ql ag_3) ?_; refine AL.r (qa jCG) ?_; refine AL.r (ql ag_3) ?_; refine AL.r (qB jAO jAq) ?_; refine AL.oq (oS jAA ?_); refine AL.n ?_; (iterate 2 refine AL.ra ?_); refine AL.nil (AW.ret ?_); refine r3 jAE ?_; rw [jFm (by unfold ok4; simp only [e0]; simp_all)]; rfl
  refine AW.skip (AW.g ?_); (iterate 2 refine AL.rm ?_); refine AL.r (qa jD5) ?_; refine AL.r (jAx 4 rfl jBS rfl rfl rfl) ?_; refine AL.oq (oS sz_3 ?_); refine AL.n ?_; refine AL.nil (AW.region (AL.rm ?_)); refine AL.ra ?_; refine AL.nil (AW.region (AL.rm ?_)); refine AL.r (jAj rfl rfl rfl (rfl : _ = (5 : Int))) ?_; refine AL.ra ?_; refine AL.nil (AW.seq (AW.g (AL.rm ?_))); refine AL.r qb ?_; refine AL.nil (AW.cond_t rfl (AW.skip (AW.seq (AW.block (AW.g ?_)))))
  (iterate 3 refine AL.rm ?_); refine AL.cl (jCK b (va b f a 5) f (by omega)) ?_; refine AL.n ?_; refine AL.rm ?_; refine AL.r qe ?_; refine AL.r qe ?_; refine AL.r qe ?_; (iterate 3 refine AL.ra ?_); refine AL.nil (AW.seq (AW.g (AL.rm ?_))); refine AL.r qb ?_; refine AL.nil (AW.cd rfl (fun h162 => ?_) (fun h162 => ?_))
  ·refine AW.g (AL.r (qa jCo) ?_); refine AL.r (ql ag_3) ?_; refine AL.r (qa jCG) ?_; refine AL.r (ql ag_3) ?_; refine AL.r (qB jAO jAq) ?_; refine AL.oq (oS jAA ?_); refine AL.n ?_; (iterate 2 refine AL.ra ?_); refine AL.nil (AW.ret ?_); refine r3 jAE ?_; rw [jFm (by unfold ok4; simp only [e0]; simp_all)]; rfl
  refine AW.skip (AW.g ?_); (iterate 2 refine AL.rm ?_); refine AL.r (qa jD5) ?_; refine AL.r (jAx 5 rfl jBS rfl rfl rfl) ?_; refine AL.oq (oS sz_3 ?_); refine AL.n ?_; refine AL.nil (AW.region (AL.rm ?_)); refine AL.ra ?_; refine AL.nil (AW.region (AL.rm ?_)); refine AL.r (jAj rfl rfl rfl (rfl : _ = (6 : Int))) ?_; refine AL.ra ?_; refine AL.nil (AW.seq (AW.g (AL.rm ?_))); refine AL.r qb ?_; refine AL.nil (AW.cond_f rfl (AW.exit ?_)); change AW _ _ _ _ _; refine AW.g (AL.r (qN jAE) ?_); refine AL.rm ?_; refine AL.oq (oS jAA ?_); refine AL.n ?_; (iterate 2 refine AL.ra ?_); refine AL.nil (AW.ret ?_); refine r3 jAE ?_; rw [get4, if_pos (by unfold ok4; simp only [e0]; simp_all)]; rfl
end
end Go.Proofs.YtlapcfnmmpbeeaaGreat
