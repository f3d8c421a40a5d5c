/- Lenses applied to schemas, plain: what goes, what comes, where it leads. No program in sight. -/
import Derived.Test.YtdgcbhihmnhnaaaLenI
import Derived.Test.YtdgcbhihmnhnaaaSchE
namespace Go.Proofs.Ytdgcbhihmnhnaaa
set_option linter.unusedSimpArgs false
set_option linter.unusedVariables false
set_option maxRecDepth 100000
open Go.RowKit

def besR (r : RefD) (s : Bytes) : RefD := ⟨r.scope, r.group, s⟩
def goesL (x : LensD) : List RefD := if rightL x = false then [] else if x.kind = 2 then [] else if x.kind = 3 then [x.field.at_] else if x.kind = 9 then [besR x.at_ x.name, besR x.at_ x.other] else [x.at_]
def comesL (x : LensD) : List RefD := if rightL x = false then [] else if x.kind = 1 then [besR x.at_ x.name] else if x.kind = 2 then [x.field.at_] else if x.kind = 3 then [] else if x.kind = 4 then [⟨x.at_.scope, [], x.at_.name⟩] else if x.kind = 5 then [⟨x.at_.scope, x.name, x.at_.name⟩] else if x.kind = 6 then [besR x.at_ x.name, besR x.at_ x.other] else [x.at_]
/-- Where one field comes of one that goes. -/
def toR (x : LensD) : RefD := if x.kind = 1 then besR x.at_ x.name else if x.kind = 4 then ⟨x.at_.scope, [], x.at_.name⟩ else ⟨x.at_.scope, x.name, x.at_.name⟩
def cntF (r : RefD) (w : Int) : FldD := ⟨r, 1, [], [], w⟩
def mergL (l : List FldD) (x : LensD) : List FldD × Bool :=
  if (findS l (besR x.at_ x.name)).2 ≠ 0 ∨ (findS l (besR x.at_ x.name)).1.kind ≠ 1 then ([], false)
  else if (findS l (besR x.at_ x.other)).2 ≠ 0 ∨ (findS l (besR x.at_ x.other)).1.kind ≠ 1 ∨ (findS l (besR x.at_ x.other)).1.worth ≠ (findS l (besR x.at_ x.name)).1.worth * x.factor then ([], false)
  else ([cntF x.at_ (findS l (besR x.at_ x.name)).1.worth], true)
/-- What comes of a field that goes, by a lens of that kind. -/
def oneL (f : FldD) (x : LensD) : List FldD × Bool :=
  if x.kind = 6 then ([cntF (besR x.at_ x.name) f.worth, cntF (besR x.at_ x.other) (f.worth * x.factor)], decide (f.kind = 1))
  else if x.kind = 7 then ([⟨x.at_, 4, [], [], 0⟩], decide (f.kind = 2) && decide (f.dflt = x.other))
  else if x.kind = 10 then ([⟨x.at_, 2, x.other, [], 0⟩], decide (f.kind = 4))
  else if x.kind = 8 then ([⟨x.at_, 3, x.other, x.back.map PairD.from_, 0⟩], decide (f = ⟨x.at_, 3, x.name, x.forth.map PairD.from_, 0⟩))
  else ([{ f with at_ := toR x }], true)
def arrL (l : List FldD) (x : LensD) : List FldD × Bool :=
  if x.kind = 2 then ([x.field], true)
  else if x.kind = 3 then ([], decide ((findS l x.field.at_).2 = 0) && decide ((findS l x.field.at_).1 = x.field))
  else if x.kind = 9 then mergL l x
  else if (findS l x.at_).2 ≠ 0 then ([], false)
  else oneL (findS l x.at_).1 x
def foldW : List RefD → List FldD → Option (List FldD)
  | [], o => some o
  | r :: rs, o => if (lessW o r).2 = 0 then foldW rs (lessW o r).1 else none
def foldP : List FldD → List FldD → Option (List FldD)
  | [], o => some o
  | f :: fs, o => if (withS o f).2 = 0 then foldP fs (withS o f).1 else none
def applyL (l : List FldD) (x : LensD) : List FldD × Int :=
  if rightS l = false ∨ rightL x = false then ([], 5)
  else if (arrL l x).2 = false then ([], 16)
  else match foldW (goesL x) l with
    | none => ([], 16)
    | some o => match foldP (arrL l x).1 o with
      | none => ([], 16)
      | some m => (m, 0)
/-! Sorted schemas as sets. -/
theorem srt_nodup {l : List FldD} (h : srt l) : l.Nodup := h.imp fun {a b} hab e => by subst e; exact lessR_irr _ hab
theorem srt_ext {a b : List FldD} (ha : srt a) (hb : srt b) (h : ∀ x, x ∈ a ↔ x ∈ b) : a = b := by
  have hp : a.Perm b := (List.perm_ext_iff_of_nodup (srt_nodup ha) (srt_nodup hb)).2 h
  exact hp.eq_of_pairwise (fun x y _ _ h1 h2 => absurd (lessR_trans h1 h2) (lessR_irr _)) ha hb
theorem mem_at {l : List FldD} (h : srt l) {x y : FldD} (hx : x ∈ l) (hy : y ∈ l) (e : x.at_ = y.at_) : x = y := by
  obtain ⟨i, hi, rfl⟩ := List.getElem_of_mem hx
  obtain ⟨j, hj, rfl⟩ := List.getElem_of_mem hy
  have := srt_eq h hi hj e
  subst this
  rfl
theorem find_mem {l : List FldD} {r : RefD} (h : (findS l r).2 = 0) : (findS l r).1 ∈ l ∧ (findS l r).1.at_ = r := by
  unfold findS at *
  cases hf : l.find? (fun f => decide (f.at_ = r)) with
  | none => rw [hf] at h; cases h
  | some f => exact ⟨List.mem_of_find?_eq_some hf, by simpa using List.find?_some hf⟩
theorem find_of {l : List FldD} (hs : srt l) {f : FldD} (h : f ∈ l) : findS l f.at_ = (f, 0) := by
  have h0 : (findS l f.at_).2 = 0 := by
    unfold findS
    cases hf : l.find? (fun g => decide (g.at_ = f.at_)) with
    | none => have := List.find?_eq_none.1 hf f h; simp at this
    | some g => rfl
  obtain ⟨h1, h2⟩ := find_mem h0
  have := mem_at hs h1 h h2
  exact Prod.ext this h0
theorem less_ok {l : List FldD} {r : RefD} (h : (lessW l r).2 = 0) : rightS l = true ∧ (∃ f ∈ l, f.at_ = r) ∧ (∀ x, x ∈ (lessW l r).1 ↔ x ∈ l ∧ x.at_ ≠ r) ∧ rightS (lessW l r).1 = true := by
  unfold lessW at h ⊢
  split at h
  · cases h
  rename_i h1
  split at h
  · cases h
  rename_i h2
  have hr : rightS l = true := by simpa using h1
  rw [if_neg h1, if_neg h2]
  refine ⟨hr, ?_, fun x => by simp, ?_⟩
  · unfold idxS at h2
    cases hf : l.findIdx? (fun f => decide (f.at_ = r)) with
    | none => rw [hf] at h2; exact absurd (by decide : (-1 : Int) < 0) h2
    | some i =>
      obtain ⟨hi, h3, _⟩ := List.findIdx?_eq_some_iff_getElem.1 hf
      exact ⟨_, List.getElem_mem hi, by simpa using h3⟩
  · obtain ⟨a, b, c⟩ := (rightS_iff l).1 hr
    exact (rightS_iff _).2 ⟨Nat.le_trans (List.length_filter_le _ _) a, fun f hf => b f (List.mem_filter.1 hf).1, c.filter _⟩
theorem less_does {l : List FldD} {r : RefD} (h : rightS l = true) {f : FldD} (hf : f ∈ l) (e : f.at_ = r) : (lessW l r).2 = 0 := by
  unfold lessW
  rw [if_neg (by rw [h]; decide), if_neg (idxS_pos hf e)]
theorem with_ok {l : List FldD} {f : FldD} (h : (withS l f).2 = 0) : rightS l = true ∧ rightF f = true ∧ (∀ x ∈ l, x.at_ ≠ f.at_) ∧ l.length < 16 ∧ (∀ x, x ∈ (withS l f).1 ↔ x ∈ l ∨ x = f) ∧ rightS (withS l f).1 = true := by
  have hc := withS_cases l f
  rcases hc with hc | hc
  · exact absurd h hc.2
  have hp := put_law hc h
  unfold withS at h
  split at h
  · cases h
  rename_i h1
  split at h
  · cases h
  rename_i h2
  split at h
  · cases h
  rename_i h3
  have hr : rightS l = true ∧ rightF f = true := by simpa using h1
  rw [hc]
  refine ⟨hr.1, hr.2, idxS_neg (by omega), by omega, fun x => ?_, hp.2.1⟩
  show x ∈ putS l f ↔ _
  unfold putS
  rw [List.mem_append, List.mem_cons]
  constructor
  · rintro (h | h | h)
    · exact .inl (List.mem_of_mem_take h)
    · exact .inr h
    · exact .inl (List.mem_of_mem_drop h)
  · rintro (h | h)
    · rw [← List.take_append_drop (cutS l f.at_) l, List.mem_append] at h
      rcases h with h | h
      · exact .inl h
      · exact .inr (.inr h)
    · exact .inr (.inl h)
theorem with_does {l : List FldD} {f : FldD} (h : rightS l = true) (hf : rightF f = true) (hn : ∀ x ∈ l, x.at_ ≠ f.at_) (hl : l.length < 16) : (withS l f).2 = 0 := by
  unfold withS
  rw [if_neg (by rw [h, hf]; decide), if_neg (fun q => ?_), if_neg (by omega)]
  rcases Int.lt_or_le (idxS l f.at_) 0 with q' | q'
  · omega
  · unfold idxS at q
    cases hfi : l.findIdx? (fun g => decide (g.at_ = f.at_)) with
    | none => rw [hfi] at q; exact absurd q (by decide)
    | some i =>
      obtain ⟨hi, h3, _⟩ := List.findIdx?_eq_some_iff_getElem.1 hfi
      exact hn _ (List.getElem_mem hi) (by simpa using h3)
/-- What is left when places go that are there. -/
theorem foldW_ok : ∀ {rs : List RefD} {l o : List FldD}, rightS l = true → foldW rs l = some o → rightS o = true ∧ (∀ r ∈ rs, ∃ f ∈ l, f.at_ = r) ∧ (∀ x, x ∈ o ↔ x ∈ l ∧ x.at_ ∉ rs) ∧ o.length + rs.length ≤ l.length
  | [], l, o, h, e => by
    injection e with e
    subst e
    exact ⟨h, by simp, by simp, by simp⟩
  | r :: rs, l, o, h, e => by
    unfold foldW at e
    split at e
    · rename_i h0
      obtain ⟨a, ⟨f, hf, fe⟩, c, d⟩ := less_ok h0
      obtain ⟨p, q, s, t⟩ := foldW_ok d e
      refine ⟨p, ?_, fun x => ?_, ?_⟩
      · intro r' hr'
        rcases List.mem_cons.1 hr' with rfl | hr'
        · exact ⟨f, hf, fe⟩
        · obtain ⟨g, hg, ge⟩ := q r' hr'
          exact ⟨g, ((c g).1 hg).1, ge⟩
      · rw [s x, c x, List.mem_cons, not_or]
        constructor
        · rintro ⟨⟨a, b⟩, c⟩; exact ⟨a, b, c⟩
        · rintro ⟨a, b, c⟩; exact ⟨⟨a, b⟩, c⟩
      · have hs := ((rightS_iff l).1 h).2.2
        have hlt : (lessW l r).1.length < l.length := by
          have hsub : ∀ x, x ∈ (lessW l r).1 → x ∈ l := fun x hx => ((c x).1 hx).1
          have hnd := srt_nodup ((rightS_iff _).1 d).2.2
          have h2 : (f :: (lessW l r).1).length ≤ l.length := by
            have hnd2 : (f :: (lessW l r).1).Nodup := List.nodup_cons.2 ⟨fun q => ((c f).1 q).2 fe, hnd⟩
            exact hnd2.length_le_of_subset (fun x hx => by rcases List.mem_cons.1 hx with rfl | hx; exact hf; exact hsub x hx)
          simp only [List.length_cons] at h2; omega
        simp only [List.length_cons]
        omega
    · cases e
theorem foldW_does : ∀ {rs : List RefD} {l : List FldD}, rightS l = true → rs.Nodup → (∀ r ∈ rs, ∃ f ∈ l, f.at_ = r) → ∃ o, foldW rs l = some o
  | [], l, _, _, _ => ⟨l, rfl⟩
  | r :: rs, l, h, hn, hr => by
    obtain ⟨f, hf, fe⟩ := hr r (by simp)
    have h0 := less_does h hf fe
    obtain ⟨a, _, c, d⟩ := less_ok h0
    rw [List.nodup_cons] at hn
    obtain ⟨o, ho⟩ := foldW_does (rs := rs) d hn.2 (fun r' hr' => by
      obtain ⟨g, hg, ge⟩ := hr r' (by simp [hr'])
      exact ⟨g, (c g).2 ⟨hg, fun q => hn.1 (q ▸ ge ▸ hr')⟩, ge⟩)
    exact ⟨o, by unfold foldW; rw [if_pos h0, ho]⟩
theorem foldP_ok : ∀ {fs : List FldD} {o m : List FldD}, rightS o = true → foldP fs o = some m → rightS m = true ∧ (∀ f ∈ fs, rightF f = true ∧ ∀ x ∈ o, x.at_ ≠ f.at_) ∧ (fs.map FldD.at_).Nodup ∧ (∀ x, x ∈ m ↔ x ∈ o ∨ x ∈ fs) ∧ m.length = o.length + fs.length
  | [], o, m, h, e => by
    injection e with e
    subst e
    exact ⟨h, by simp, by simp, by simp, by simp⟩
  | f :: fs, o, m, h, e => by
    unfold foldP at e
    split at e
    · rename_i h0
      obtain ⟨a, b, c, d, u, v⟩ := with_ok h0
      obtain ⟨p, q, s, t, w⟩ := foldP_ok v e
      refine ⟨p, ?_, ?_, fun x => ?_, ?_⟩
      · intro g hg
        rcases List.mem_cons.1 hg with rfl | hg
        · exact ⟨b, c⟩
        · obtain ⟨g1, g2⟩ := q g hg
          exact ⟨g1, fun x hx => g2 x ((u x).2 (.inl hx))⟩
      · rw [List.map_cons, List.nodup_cons]
        refine ⟨fun hm => ?_, s⟩; obtain ⟨g, hg, ge⟩ := List.mem_map.1 hm; exact (q g hg).2 f ((u f).2 (.inr rfl)) ge.symm
      · rw [t x, u x, List.mem_cons, or_assoc]
      · rw [w]
        have hc := withS_cases o f
        rcases hc with hc | hc
        · exact absurd h0 hc.2
        · rw [hc]
          have := cutS_le o f.at_
          simp only [putS, List.length_append, List.length_cons, List.length_take, List.length_drop]
          omega
    · cases e
theorem foldP_does : ∀ {fs : List FldD} {o : List FldD}, rightS o = true → (∀ f ∈ fs, rightF f = true ∧ ∀ x ∈ o, x.at_ ≠ f.at_) → (fs.map FldD.at_).Nodup → o.length + fs.length ≤ 16 → ∃ m, foldP fs o = some m
  | [], o, _, _, _, _ => ⟨o, rfl⟩
  | f :: fs, o, h, hf, hn, hl => by
    obtain ⟨a, b⟩ := hf f (by simp)
    simp only [List.length_cons] at hl
    have h0 := with_does h a b (by omega)
    obtain ⟨_, _, _, d, u, v⟩ := with_ok h0
    rw [List.map_cons, List.nodup_cons] at hn
    have hlen : (withS o f).1.length = o.length + 1 := by
      have hc := withS_cases o f
      rcases hc with hc | hc
      · exact absurd h0 hc.2
      · rw [hc]
        have := cutS_le o f.at_
        simp only [putS, List.length_append, List.length_cons, List.length_take, List.length_drop]
        omega
    obtain ⟨m, hm⟩ := foldP_does (fs := fs) v (fun g hg => ⟨(hf g (by simp [hg])).1, fun x hx => by
      rcases (u x).1 hx with h1 | h1
      · exact (hf g (by simp [hg])).2 x h1
      · subst h1; exact fun q => hn.1 (List.mem_map.2 ⟨g, hg, q.symm⟩)⟩) hn.2 (by omega)
    exact ⟨m, by unfold foldP; rw [if_pos h0, hm]⟩
end Go.Proofs.Ytdgcbhihmnhnaaa
