/- A schema got from a reader, plain: what was put is got, and the reference reads the same. Conditions: formats that are one, int64 numbers, short texts. -/
import Derived.Test.YtfjnkhanndkpfaaFbP
import Derived.Test.YtfjnkhanndkpfaaSchB
namespace Go.Proofs.Ytfjnkhanndkpfaa
set_option linter.unusedSimpArgs false
set_option linter.unusedVariables false
set_option maxRecDepth 100000
open Go.RowKit

theorem heavyF_light {x : FldD} (h : heavyF x = false) : x.Light := by
  obtain ⟨h1, h2, h3, h4, h5⟩ := heavyF_f h
  exact ⟨h1, h2, h3, h4, h5⟩
def putL (f : Int) (l : List FldD) : List UInt8 := putN f (l.length : Nat) ++ l.flatMap (putF f)
def putL' (f : Int) (l : List FldD) (k : Nat) : List UInt8 := putN f (l.length : Nat) ++ (l.take k).flatMap (putF f)
theorem putL'_0 (f : Int) (l : List FldD) : putL' f l 0 = putN f (l.length : Nat) := by unfold putL'; simp
theorem putL'_s {f : Int} {l : List FldD} {k : Nat} (hk : k < l.length) : putL' f l (k + 1) = putL' f l k ++ putF f l[k] := by
  unfold putL'
  rw [← List.take_append_getElem hk, List.flatMap_append]; simp
theorem putL'_n (f : Int) (l : List FldD) : putL' f l l.length = putL f l := by unfold putL' putL; rw [List.take_length]
theorem putL'_len {f : Int} {l : List FldD} (h : ∀ x ∈ l, x.Light) (k : Nat) : (putL' f l k).length ≤ 10 + 5000 * k := by
  have hd : ∀ m : List FldD, (∀ x ∈ m, x.Light) → (m.flatMap (putF f)).length ≤ 5000 * m.length := fun m => by
    induction m with
    | nil => intro _; simp
    | cons t m ih =>
      intro hm
      have := putF_len (f := f) (hm t (by simp)); have := ih (fun c hc => hm c (by simp [hc]))
      simp only [List.flatMap_cons, List.length_append, List.length_cons]; omega
  have := hd (l.take k) (fun c hc => h c (List.mem_of_mem_take hc))
  have ht : (l.take k).length ≤ k := by rw [List.length_take]; omega
  have := putN_len f (l.length : Nat)
  unfold putL'
  rw [List.length_append]; omega
def fldsP : Nat → RdrD → List FldD × RdrD
  | 0, r => ([], r)
  | n + 1, r => ((fldsP n r).1 ++ [(getF (fldsP n r).2).1], (getF (fldsP n r).2).2)
def sn (r : RdrD) : Nat := (countP r 16).1.toNat
def s0 (r : RdrD) : RdrD := (countP r 16).2
def okG (r : RdrD) : Bool := !badP (fldsP (sn r) (s0 r)).2 && rightS (fldsP (sn r) (s0 r)).1
def gS (r : RdrD) : List FldD := if okG r then (fldsP (sn r) (s0 r)).1 else []
theorem fldsP_ok {r : RdrD} (h : r.Ok) : ∀ n, r.Of (fldsP n r).2 ∧ (fldsP n r).1.length = n
  | 0 => ⟨h.of, rfl⟩
  | n + 1 => by
    obtain ⟨a, b⟩ := fldsP_ok h n
    exact ⟨a.trans (getF_ok a.ok), by rw [fldsP, List.length_append, b]; rfl⟩
theorem bad_getF {r : RdrD} (h : badP r = true) : badP (getF r).2 = true := (getF_no (.inl (b0 h))).2
theorem bad_flds {r : RdrD} {j : Nat} (h : badP (fldsP j r).2 = true) : ∀ k, badP (fldsP (j + k) r).2 = true
  | 0 => h
  | k + 1 => bad_getF (bad_flds h k)
theorem bad_flds' {r : RdrD} {j n : Nat} (h : badP (fldsP j r).2 = true) (hj : j ≤ n) : badP (fldsP n r).2 = true := by
  have := bad_flds h (n - j)
  rwa [show j + (n - j) = n by omega] at this
theorem okG_bad {r : RdrD} {j : Nat} (h : badP (fldsP j (s0 r)).2 = true) (hj : j ≤ sn r) : okG r = false := by unfold okG; rw [bad_flds' h hj]; rfl
theorem gS_no {r : RdrD} (h : okG r = false) : gS r = [] := by unfold gS; rw [h]; rfl
/-! What was put. -/
theorem flds_at {r : RdrD} {f : Int} {pre suf : List UInt8} {l : List FldD} (h : r.At f pre (l.flatMap (putF f) ++ suf)) (hw : ∀ x ∈ l, x.Wf) (hl : ∀ x ∈ l, x.Light) : ∀ k, k ≤ l.length → ((∀ x ∈ l.take k, rightF x = true) → (fldsP k r).1 = l.take k ∧ (fldsP k r).2.At f (pre ++ (l.take k).flatMap (putF f)) ((l.drop k).flatMap (putF f) ++ suf)) ∧ (¬ (∀ x ∈ l.take k, rightF x = true) → badP (fldsP k r).2 = true)
  | 0, _ => ⟨fun _ => ⟨rfl, by simpa [fldsP] using h⟩, fun h => (h (by simp)).elim⟩
  | k + 1, hk => by
    obtain ⟨i1, i2⟩ := flds_at h hw hl k (by omega)
    have e : l.take (k + 1) = l.take k ++ [l[k]] := (List.take_append_getElem (by omega)).symm
    have hm := List.getElem_mem (show k < l.length by omega)
    by_cases g : ∀ x ∈ l.take k, rightF x = true
    · obtain ⟨a, b⟩ := i1 g
      rw [List.drop_eq_getElem_cons (by omega), List.flatMap_cons, List.append_assoc] at b
      obtain ⟨t1, t2⟩ := fld_at b (hw _ hm) (hl _ hm)
      cases g2 : rightF l[k] with
      | true =>
        obtain ⟨c, d⟩ := t1 g2
        refine ⟨fun _ => ⟨by rw [fldsP, a, c, e], ?_⟩, fun hn => (hn fun c hc => ?_).elim⟩
        · rw [e, List.flatMap_append]
          rw [List.append_assoc] at d
          simpa [fldsP] using d
        · rw [e, List.mem_append, List.mem_singleton] at hc
          rcases hc with hc | rfl
          · exact g c hc
          · exact g2
      | false => exact ⟨fun hn => (by have := hn l[k] (by rw [e]; exact List.mem_append_right _ (List.mem_singleton.2 rfl)); rw [g2] at this; cases this), fun _ => t2 g2⟩
    · refine ⟨fun hn => (g fun c hc => hn c (by rw [e]; exact List.mem_append_left _ hc)).elim, fun _ => bad_getF (i2 g)⟩
theorem rightS_parts {l : List FldD} (h : rightS l = true) : l.length ≤ 16 ∧ ∀ x ∈ l, rightF x = true := by
  unfold rightS at h
  simp only [Bool.and_eq_true, decide_eq_true_eq, List.all_eq_true, List.mem_range] at h
  refine ⟨h.1, fun x hx => ?_⟩
  obtain ⟨i, hi, rfl⟩ := List.getElem_of_mem hx
  have := h.2 i hi
  unfold okS at this
  rw [List.getElem?_eq_getElem hi] at this
  simp only [Bool.and_eq_true] at this
  exact this.1
theorem schema_at {f : Int} {l : List FldD} (hf : okF f = true) (hn : l.length ≤ 40) (hw : ∀ x ∈ l, x.Wf) (hl : ∀ x ∈ l, x.Light) : (rightS l = true → okG (newR (putL f l) f) = true ∧ gS (newR (putL f l) f) = l ∧ (fldsP (sn (newR (putL f l) f)) (s0 (newR (putL f l) f))).2.At f (putL f l) []) ∧ (rightS l = false → okG (newR (putL f l) f) = false) := by
  have h0 : (newR (putL f l) f).At f [] (putN f (l.length : Nat) ++ (l.flatMap (putF f) ++ [])) := by
    refine ⟨?_, rfl, by show (!okF f) = false; rw [hf]; rfl, rfl, hf⟩
    show putL f l = _
    unfold putL; simp
  generalize newR (putL f l) f = r at h0 ⊢
  obtain ⟨c1, c2⟩ := count_at h0 (by omega) (most := 16)
  by_cases g : l.length ≤ 16
  case neg =>
    have hb : badP (s0 r) = true := c2 (by omega)
    have hk : okG r = false := okG_bad (j := 0) hb (Nat.zero_le _)
    exact ⟨fun h => (g (rightS_parts h).1).elim, fun _ => hk⟩
  obtain ⟨v1, h1⟩ := c1 (by omega)
  have h1 : (s0 r).At f ([] ++ putN f (l.length : Nat)) (l.flatMap (putF f) ++ []) := h1
  have en : sn r = l.length := by unfold sn; exact (congrArg Int.toNat v1).trans (Int.toNat_natCast _)
  obtain ⟨t1, t2⟩ := flds_at h1 hw hl l.length (Nat.le_refl _)
  by_cases g2 : ∀ x ∈ l.take l.length, rightF x = true
  case neg =>
    have hk : okG r = false := by unfold okG; rw [en, t2 g2]; rfl
    exact ⟨fun h => (g2 (by rw [List.take_length]; exact (rightS_parts h).2)).elim, fun _ => hk⟩
  obtain ⟨v2, h2⟩ := t1 g2
  rw [List.take_length] at v2 h2
  rw [List.drop_length, List.flatMap_nil, List.nil_append] at h2
  have hk : okG r = rightS l := by unfold okG; rw [en, v2, h2.nb]; rfl
  refine ⟨fun h => ⟨hk.trans h, ?_, ?_⟩, fun h => hk.trans h⟩
  · unfold gS
    rw [hk, h, if_pos rfl, en]
    exact v2
  · rw [en]
    have e : putL f l = [] ++ putN f (l.length : Nat) ++ l.flatMap (putF f) := by unfold putL; simp
    rw [e]; exact h2
/-! What the reference reads. -/
section
variable (b : List UInt8) (f a : Int)
def z0 := rd8 b a f (askT 6 16)
def fst14 : Nat → List FldD × Int × Bool
  | 0 => ([], (z0 b f a).2.1, true)
  | j + 1 => ((fst14 j).1 ++ [(get13 b f (fst14 j).2.1).1], (get13 b f (fst14 j).2.1).2.1, (fst14 j).2.2 && (get13 b f (fst14 j).2.1).2.2)
def zn : Nat := (z0 b f a).1.n.toNat
def ok14 : Bool := (z0 b f a).2.2 && (fst14 b f a (zn b f a)).2.2 && rightS (fst14 b f a (zn b f a)).1
def get14 : List FldD × Int × Bool := if ok14 b f a then ((fst14 b f a (zn b f a)).1, (fst14 b f a (zn b f a)).2.1, true) else ([], 0, false)
end
theorem fst14_nn {b : List UInt8} {f a : Int} (h0 : 0 ≤ a) : ∀ k, 0 ≤ (fst14 b f a k).2.1
  | 0 => rd8_nn h0
  | k + 1 => get13_nn (fst14_nn h0 k)
theorem fst14_len (b : List UInt8) (f a : Int) : ∀ k, (fst14 b f a k).1.length = k
  | 0 => rfl
  | k + 1 => by rw [fst14, List.length_append, fst14_len]; rfl
theorem fst14_false {b : List UInt8} {f a : Int} {j : Nat} (h : (fst14 b f a j).2.2 = false) : ∀ k, (fst14 b f a (j + k)).2.2 = false
  | 0 => h
  | k + 1 => by rw [← Nat.add_assoc, fst14, fst14_false h k]; rfl
theorem get14_no {b : List UInt8} {f a : Int} (h : ¬ ok14 b f a = true) : get14 b f a = ([], 0, false) := if_neg h
section
variable {b : List UInt8} {f : Int} (hf : okF f = true)
include hf
theorem flds_sim {r : RdrD} {a : Int} (h : RdG b f r (z0 b f a).2.1) : ∀ k, ((fst14 b f a k).2.2 = true → (fldsP k r).1 = (fst14 b f a k).1 ∧ RdG b f (fldsP k r).2 (fst14 b f a k).2.1) ∧ ((fst14 b f a k).2.2 = false → badP (fldsP k r).2 = true)
  | 0 => ⟨fun _ => ⟨rfl, h⟩, fun h => (by cases h)⟩
  | k + 1 => by
    obtain ⟨i1, i2⟩ := flds_sim h k
    rw [fst14]
    simp only [Bool.and_eq_true, Bool.and_eq_false_iff]
    cases e : (fst14 b f a k).2.2 with
    | false => exact ⟨fun hh => (by cases hh.1), fun _ => bad_getF (i2 e)⟩
    | true =>
      obtain ⟨v, g⟩ := i1 e
      obtain ⟨j1, j2⟩ := fld_sim hf g
      cases e2 : ok13 b f (fst14 b f a k).2.1 with
      | false =>
        have hg : get13 b f (fst14 b f a k).2.1 = (zeroF, 0, false) := get13_no (by rw [e2]; decide)
        refine ⟨fun hh => ?_, fun _ => j2 e2⟩
        rw [hg] at hh; cases hh.2
      | true =>
        have hg : get13 b f (fst14 b f a k).2.1 = (raw13 b f (fst14 b f a k).2.1, (y6 b f (fst14 b f a k).2.1).2.1, true) := if_pos e2
        obtain ⟨v2, g2⟩ := j1 e2
        refine ⟨fun _ => ⟨?_, ?_⟩, fun hh => ?_⟩
        · rw [fldsP, hg]
          show (fldsP k r).1 ++ _ = _
          rw [v, v2]
        · rw [hg]; exact g2
        · rw [hg] at hh
          rcases hh with h | h <;> cases h
theorem schema_sim {r : RdrD} {a : Int} (g0 : RdG b f r a) : okG r = ok14 b f a ∧ (ok14 b f a = true → gS r = (get14 b f a).1 ∧ RdG b f (fldsP (sn r) (s0 r)).2 (get14 b f a).2.1) := by
  have s1 := rd_count hf g0 (most := 16) (by omega)
  cases e1 : (z0 b f a).2.2 with
  | false =>
    have hb : badP (s0 r) = true := s1.2 e1
    have h1 : ok14 b f a = false := by unfold ok14; rw [e1]; rfl
    exact ⟨by rw [h1]; exact okG_bad (j := 0) hb (Nat.zero_le _), fun h => (by rw [h1] at h; cases h)⟩
  | true =>
  obtain ⟨v1, g1⟩ := s1.1 e1
  have g1 : RdG b f (s0 r) (z0 b f a).2.1 := g1
  have hn : sn r = zn b f a := by unfold sn zn; exact congrArg Int.toNat v1
  have s2 := flds_sim hf (a := a) g1 (zn b f a)
  cases e2 : (fst14 b f a (zn b f a)).2.2 with
  | false =>
    have h1 : ok14 b f a = false := by unfold ok14; rw [e1, e2]; rfl
    have h2 : okG r = false := by unfold okG; rw [hn, s2.2 e2]; rfl
    exact ⟨by rw [h1, h2], fun h => (by rw [h1] at h; cases h)⟩
  | true =>
  obtain ⟨v2, g2⟩ := s2.1 e2
  have h1 : ok14 b f a = rightS (fst14 b f a (zn b f a)).1 := by unfold ok14; rw [e1, e2]; rfl
  have h2 : okG r = ok14 b f a := by unfold okG; rw [hn, v2, g2.nb hf, h1]; rfl
  refine ⟨h2, fun h => ?_⟩
  have hg : get14 b f a = ((fst14 b f a (zn b f a)).1, (fst14 b f a (zn b f a)).2.1, true) := if_pos h
  rw [hg, hn]
  refine ⟨?_, g2⟩
  unfold gS
  rw [h2, h, if_pos rfl, hn]
  exact v2
end
end Go.Proofs.Ytfjnkhanndkpfaa
