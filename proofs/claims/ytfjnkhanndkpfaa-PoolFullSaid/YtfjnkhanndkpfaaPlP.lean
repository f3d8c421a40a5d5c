/- Pools, plain: the document's list of ops and the pool tell the same. No conditions. -/
import Derived.Test.YtfjnkhanndkpfaaPlE
import Derived.Test.YtfjnkhanndkpfaaPlS
namespace Go.Proofs.Ytfjnkhanndkpfaa
set_option linter.unusedSimpArgs false
set_option linter.unusedVariables false
set_option maxRecDepth 100000
open Go.RowKit

/-- The list m of ops, as the document keeps it, and the pool p. -/
inductive Rel : List OpD → PoolD → Prop
  | nil : Rel [] newP
  | snoc {m : List OpD} {p : PoolD} {o : OpD} (h : Rel m p) (hc : putC p o = 0) : Rel (m ++ [o]) (putP p o)
theorem Rel.ok {m : List OpD} {p : PoolD} (h : Rel m p) : OkP p := by
  induction h with
  | nil => exact okP_new
  | snoc _ _ ih => exact ih.put _
theorem Rel.len {m : List OpD} {p : PoolD} (h : Rel m p) : m.length = totP p := by
  induction h with
  | nil => rfl
  | snoc _ hc ih => rw [tot_put, if_pos hc, List.length_append, ih]; rfl
theorem Rel.right {m : List OpD} {p : PoolD} (h : Rel m p) : ∀ o ∈ m, rightO o = true := by
  induction h with
  | nil => intro o ho; cases ho
  | snoc _ hc ih =>
    intro o ho
    rcases List.mem_append.1 ho with h1 | h1
    · exact ih o h1
    · simp at h1; subst h1; exact (put_case hc).1
theorem six {i : Nat} (h : i < 6) : i = 0 ∨ i = 1 ∨ i = 2 ∨ i = 3 ∨ i = 4 ∨ i = 5 := by omega
theorem rep_six {o : OpD} (h : rightO o = true) : (o.id.rep - 1).toNat < 6 ∧ ((o.id.rep - 1).toNat : Int) + 1 = o.id.rep := by
  have := (tagB_rep (tag_of h)).1
  omega
theorem cat_eq (p : PoolD) : catP p = p 0 ++ p 1 ++ p 2 ++ p 3 ++ p 4 ++ p 5 := rfl
theorem mem_cat {p : PoolD} {x : OpD} : x ∈ catP p ↔ ∃ i, i < 6 ∧ x ∈ p i := by
  rw [cat_eq]
  simp only [List.mem_append]
  constructor
  · rintro (((((h | h) | h) | h) | h) | h)
    · exact ⟨0, by omega, h⟩
    · exact ⟨1, by omega, h⟩
    · exact ⟨2, by omega, h⟩
    · exact ⟨3, by omega, h⟩
    · exact ⟨4, by omega, h⟩
    · exact ⟨5, by omega, h⟩
  · rintro ⟨i, hi, h⟩
    rcases six hi with rfl | rfl | rfl | rfl | rfl | rfl <;> simp [h]
theorem OkP.mem {p : PoolD} (h : OkP p) {i : Nat} (hi : i < 6) {x : OpD} (hx : x ∈ p i) : x.id.rep = (i : Int) + 1 ∧ 1 ≤ x.id.n ∧ x.id.n ≤ ((p i).length : Int) ∧ (p i)[(x.id.n - 1).toNat]? = some x := by
  obtain ⟨j, hj, rfl⟩ := List.getElem_of_mem hx
  have e := (h.all i hi j hj).1
  rw [e]
  refine ⟨rfl, by show (1 : Int) ≤ (j : Int) + 1; omega, by show (j : Int) + 1 ≤ _; omega, ?_⟩
  show (p i)[((j : Int) + 1 - 1).toNat]? = _
  rw [show ((j : Int) + 1 - 1).toNat = j by omega, List.getElem?_eq_getElem hj]
theorem ins_mid {A B : List OpD} {o : OpD} (hA : ∀ x ∈ A, lessT x.id o.id = true) (hB : ∀ y ∈ B, lessT y.id o.id = false) : insO (A ++ B) o = A ++ o :: B := by
  rw [ins_at (k := A.length) (by simp) (fun i hi hik => by rw [List.getElem_append_left hik]; exact hA _ (List.getElem_mem hik)) (fun hk => by
    rw [List.getElem_append_right (Nat.le_refl _)]; exact hB _ (List.getElem_mem _))]
  simp
theorem less_lo {a b : TagD} (h : a.rep < b.rep ∨ (a.rep = b.rep ∧ a.n < b.n)) : lessT a b = true := by
  unfold lessT; split <;> simp <;> omega
theorem less_hi {a b : TagD} (h : b.rep < a.rep) : lessT a b = false := by
  unfold lessT; split <;> simp <;> omega
theorem Rel.sort {m : List OpD} {p : PoolD} (h : Rel m p) : sortO m = catP p := by
  induction h with
  | nil => rfl
  | @snoc m p o hr hc ih =>
    have hok := hr.ok
    obtain ⟨h1, h2, h3, h4⟩ := put_case hc
    obtain ⟨r1, r2⟩ := rep_six h1
    rw [sortO, List.foldl_append]
    show insO (sortO m) o = _
    rw [ih, h4]
    generalize (o.id.rep - 1).toNat = r at *
    have lo : ∀ i, i < 6 → i ≤ r → ∀ x ∈ p i, lessT x.id o.id = true := fun i hi hir x hx => by
      obtain ⟨a, b, c, _⟩ := hok.mem hi hx
      apply less_lo
      by_cases e : i = r
      · subst e; right; omega
      · left; omega
    have hi' : ∀ i, i < 6 → r < i → ∀ x ∈ p i, lessT x.id o.id = false := fun i hi hir x hx => by
      obtain ⟨a, b, c, _⟩ := hok.mem hi hx
      exact less_hi (by omega)
    rw [cat_eq, cat_eq]
    rcases six r1 with rfl | rfl | rfl | rfl | rfl | rfl
    · have := ins_mid (A := p 0) (B := p 1 ++ p 2 ++ p 3 ++ p 4 ++ p 5) (o := o) (fun x hx => lo 0 (by omega) (by omega) x hx) (fun x hx => by
        simp only [List.mem_append] at hx
        rcases hx with (((h | h) | h) | h) | h
        · exact hi' 1 (by omega) (by omega) x h
        · exact hi' 2 (by omega) (by omega) x h
        · exact hi' 3 (by omega) (by omega) x h
        · exact hi' 4 (by omega) (by omega) x h
        · exact hi' 5 (by omega) (by omega) x h)
      simpa [updP] using this
    · have := ins_mid (A := p 0 ++ p 1) (B := p 2 ++ p 3 ++ p 4 ++ p 5) (o := o) (fun x hx => by
        simp only [List.mem_append] at hx
        rcases hx with h | h
        · exact lo 0 (by omega) (by omega) x h
        · exact lo 1 (by omega) (by omega) x h) (fun x hx => by
        simp only [List.mem_append] at hx
        rcases hx with ((h | h) | h) | h
        · exact hi' 2 (by omega) (by omega) x h
        · exact hi' 3 (by omega) (by omega) x h
        · exact hi' 4 (by omega) (by omega) x h
        · exact hi' 5 (by omega) (by omega) x h)
      simpa [updP] using this
    · have := ins_mid (A := p 0 ++ p 1 ++ p 2) (B := p 3 ++ p 4 ++ p 5) (o := o) (fun x hx => by
        simp only [List.mem_append] at hx
        rcases hx with (h | h) | h
        · exact lo 0 (by omega) (by omega) x h
        · exact lo 1 (by omega) (by omega) x h
        · exact lo 2 (by omega) (by omega) x h) (fun x hx => by
        simp only [List.mem_append] at hx
        rcases hx with (h | h) | h
        · exact hi' 3 (by omega) (by omega) x h
        · exact hi' 4 (by omega) (by omega) x h
        · exact hi' 5 (by omega) (by omega) x h)
      simpa [updP] using this
    · have := ins_mid (A := p 0 ++ p 1 ++ p 2 ++ p 3) (B := p 4 ++ p 5) (o := o) (fun x hx => by
        simp only [List.mem_append] at hx
        rcases hx with ((h | h) | h) | h
        · exact lo 0 (by omega) (by omega) x h
        · exact lo 1 (by omega) (by omega) x h
        · exact lo 2 (by omega) (by omega) x h
        · exact lo 3 (by omega) (by omega) x h) (fun x hx => by
        simp only [List.mem_append] at hx
        rcases hx with h | h
        · exact hi' 4 (by omega) (by omega) x h
        · exact hi' 5 (by omega) (by omega) x h)
      simpa [updP] using this
    · have := ins_mid (A := p 0 ++ p 1 ++ p 2 ++ p 3 ++ p 4) (B := p 5) (o := o) (fun x hx => by
        simp only [List.mem_append] at hx
        rcases hx with (((h | h) | h) | h) | h
        · exact lo 0 (by omega) (by omega) x h
        · exact lo 1 (by omega) (by omega) x h
        · exact lo 2 (by omega) (by omega) x h
        · exact lo 3 (by omega) (by omega) x h
        · exact lo 4 (by omega) (by omega) x h) (fun x hx => hi' 5 (by omega) (by omega) x hx)
      simpa [updP] using this
    · have := ins_mid (A := p 0 ++ p 1 ++ p 2 ++ p 3 ++ p 4 ++ p 5) (B := []) (o := o) (fun x hx => by
        simp only [List.mem_append] at hx
        rcases hx with ((((h | h) | h) | h) | h) | h
        · exact lo 0 (by omega) (by omega) x h
        · exact lo 1 (by omega) (by omega) x h
        · exact lo 2 (by omega) (by omega) x h
        · exact lo 3 (by omega) (by omega) x h
        · exact lo 4 (by omega) (by omega) x h
        · exact lo 5 (by omega) (by omega) x h) (fun x hx => by cases hx)
      simpa [updP] using this
theorem ins_perm (l : List OpD) (o : OpD) : (insO l o).Perm (o :: l) := by
  unfold insO
  have h := List.takeWhile_append_dropWhile (p := fun x : OpD => lessT x.id o.id) (l := l)
  exact (List.perm_middle).trans (by rw [h])
theorem sort_perm (l : List OpD) : (sortO l).Perm l := by
  have : ∀ (l b : List OpD), (l.foldl insO b).Perm (b ++ l) := by
    intro l
    induction l with
    | nil => intro b; simp
    | cons x l ih =>
      intro b
      rw [List.foldl_cons]
      refine (ih _).trans ?_
      refine ((ins_perm b x).append_right l).trans ?_
      exact (List.perm_middle).symm
  simpa [sortO] using this l []
theorem Rel.mem {m : List OpD} {p : PoolD} (h : Rel m p) (x : OpD) : x ∈ m ↔ ∃ i, i < 6 ∧ x ∈ p i := by
  rw [← mem_cat, ← h.sort]
  exact (sort_perm m).mem_iff.symm
theorem stepT_comm (c : Int) (x y : OpD) : stepT (stepT c x) y = stepT (stepT c y) x := by
  unfold stepT; repeat' split
  all_goals omega
theorem Rel.clock {m : List OpD} {p : PoolD} (h : Rel m p) : clockR m = clockP p := by
  unfold clockR clockP
  rw [← h.sort]
  have : ∀ {l l' : List OpD}, l.Perm l' → ∀ c, l.foldl stepT c = l'.foldl stepT c := by
    intro l l' hp
    induction hp with
    | nil => intro c; rfl
    | cons x _ ih => intro c; exact ih _
    | swap x y l => intro c; simp only [List.foldl_cons]; rw [stepT_comm]
    | trans _ _ ih1 ih2 => intro c; rw [ih1, ih2]
  exact (this (sort_perm m) 0).symm
theorem Rel.have_ {m : List OpD} {p : PoolD} (h : Rel m p) (i : Nat) : haveR m i = lensP p i := by
  induction h with
  | nil => rfl
  | @snoc m p o hr hc ih =>
    obtain ⟨h1, h2, h3, h4⟩ := put_case hc
    rw [haveR, List.foldl_append]
    show haveStep (haveR m) o i = _
    rw [h4]
    unfold haveStep lensP updP
    by_cases e : i = (o.id.rep - 1).toNat
    · rw [if_pos e, if_pos e, ih, List.length_append]
      subst e
      simp [lensP]
    · rw [if_neg e, if_neg e, ih]; rfl
theorem at_some {l : List OpD} {t : TagD} {k : Nat} (h : atL l t = (k : Int)) : ∃ hk : k < l.length, l[k].id = t := by
  unfold atL at h
  cases hf : l.findIdx? (fun o => decide (o.id = t)) with
  | none => rw [hf] at h; exact absurd h (by simp)
  | some i =>
    rw [hf] at h
    simp only at h
    have e : i = k := by omega
    subst e
    obtain ⟨h1, h2, _⟩ := List.findIdx?_eq_some_iff_getElem.1 hf
    exact ⟨h1, by simpa using h2⟩
theorem at_mem {l : List OpD} {x : OpD} (h : x ∈ l) : 0 ≤ atL l x.id := by
  unfold atL
  cases hf : l.findIdx? (fun o => decide (o.id = x.id)) with
  | none =>
    have := List.findIdx?_eq_none_iff.1 hf x h
    simp at this
  | some i => simp
/-- A tag is there by the list just where it is there by the pool, and its op is the same one. -/
theorem Rel.find {m : List OpD} {p : PoolD} (h : Rel m p) (t : TagD) : (hasV (lensP p) t = true ↔ 0 ≤ atL m t) ∧ (0 ≤ atL m t → (findP p t).1 = m[(atL m t).toNat]?.getD zeroO) := by
  have hok := h.ok
  have key : 0 ≤ atL m t → hasV (lensP p) t = true ∧ (findP p t).1 = m[(atL m t).toNat]?.getD zeroO := fun h0 => by
    obtain ⟨k, e, hk⟩ := atL_lt h0
    obtain ⟨hk, e2⟩ := at_some e
    rw [e, Int.toNat_natCast, List.getElem?_eq_getElem hk, Option.getD_some]
    have hm := List.getElem_mem hk
    have hr := h.right _ hm
    obtain ⟨i, hi, hx⟩ := (h.mem _).1 hm
    obtain ⟨a, b, c, d⟩ := hok.mem hi hx
    have htag := tag_of hr
    rw [e2] at a b c d htag
    have hi' : (t.rep - 1).toNat = i := by omega
    have hh : hasV (lensP p) t = true := by
      unfold hasV lensP
      rw [htag, hi']
      simpa using c
    refine ⟨hh, ?_⟩
    unfold findP
    rw [if_pos hh, hi', d]; rfl
  refine ⟨⟨fun hh => ?_, fun h0 => (key h0).1⟩, fun h0 => (key h0).2⟩
  have ht : tagB t = true := by unfold hasV at hh; simp only [Bool.and_eq_true] at hh; exact hh.1
  obtain ⟨i, n⟩ := t
  have hr := tagB_rep ht
  obtain ⟨r, hr6, rfl⟩ : ∃ r : Nat, r < 6 ∧ i = (r : Int) + 1 := ⟨(i - 1).toNat, by simp only at hr; omega, by simp only at hr; omega⟩
  obtain ⟨b1, b2, b3⟩ := has_at hh
  have hj : (n - 1).toNat < (p r).length := by omega
  have e := (hok.all r hr6 _ hj).1
  have hm : (p r)[(n - 1).toNat] ∈ m := (h.mem _).2 ⟨r, hr6, List.getElem_mem hj⟩
  have := at_mem hm
  rw [e] at this
  rwa [show (((n - 1).toNat : Int) + 1) = n by omega] at this
theorem Rel.put {m : List OpD} {p : PoolD} (h : Rel m p) (o : OpD) : (putR m o).2 = putC p o ∧ Rel (putR m o).1 (putP p o) := by
  have hnext : putC p o = 0 → Rel (m ++ [o]) (putP p o) := fun hc => .snoc h hc
  have hstay : putC p o ≠ 0 → Rel m (putP p o) := fun hc => by rw [(put_no hc).2]; exact h
  obtain ⟨f1, f2⟩ := h.find o.id
  unfold putR
  cases hr : rightO o with
  | false =>
    have e : putC p o = 5 := (put_5 hr).1
    rw [if_pos rfl]
    exact ⟨e.symm, hstay (by rw [e]; decide)⟩
  | true =>
    rw [if_neg (by decide)]
    by_cases h0 : 0 ≤ atL m o.id
    · have hf := (find_has (p := p) o.id).2 (f1.2 h0)
      by_cases hs : m[(atL m o.id).toNat]?.getD zeroO = o
      · have e := (put_7 hr hf ((f2 h0).trans hs)).1
        rw [if_pos ⟨h0, hs⟩]
        exact ⟨e.symm, hstay (by rw [e]; decide)⟩
      · have e := (put_15 hr hf (fun q => hs ((f2 h0).symm.trans q))).1
        rw [if_neg (fun q => hs q.2), if_pos h0]
        exact ⟨e.symm, hstay (by rw [e]; decide)⟩
    · have hnf : ¬ (findP p o.id).2 = 0 := fun q => h0 (f1.1 ((find_has _).1 q))
      rw [if_neg (fun q => h0 q.1), if_neg h0]
      have ht := tagB_rep (tag_of hr)
      have hlen : ((p (o.id.rep - 1).toNat).length : Int) < o.id.n := by
        rcases Int.lt_or_le ((p (o.id.rep - 1).toNat).length : Int) o.id.n with q | q
        · exact q
        · exfalso
          refine h0 (f1.1 ?_)
          unfold hasV lensP
          rw [tag_of hr]
          simpa using q
      have f3 := (h.find ⟨o.id.rep, o.id.n - 1⟩).1
      have f4 : hasV (lensP p) ⟨o.id.rep, o.id.n - 1⟩ = true ↔ 1 ≤ o.id.n - 1 ∧ o.id.n - 1 ≤ ((p (o.id.rep - 1).toNat).length : Int) := by
        unfold hasV lensP tagB
        simp only [Bool.and_eq_true, decide_eq_true_eq]
        omega
      by_cases hg : 1 < o.id.n ∧ atL m ⟨o.id.rep, o.id.n - 1⟩ < 0
      · have hn : ¬ o.id.n = ((p (o.id.rep - 1).toNat).length : Int) + 1 := fun q => by
          have := f3.1 (f4.2 ⟨by omega, by omega⟩)
          omega
        have e := (put_17 hr hnf hn).1
        rw [if_pos hg]
        exact ⟨e.symm, hstay (by rw [e]; decide)⟩
      · have hn : o.id.n = ((p (o.id.rep - 1).toNat).length : Int) + 1 := by
          by_cases h1 : 1 < o.id.n
          · have h2 : 0 ≤ atL m ⟨o.id.rep, o.id.n - 1⟩ := by
              rcases Int.lt_or_le (atL m ⟨o.id.rep, o.id.n - 1⟩) 0 with q | q
              · exact absurd ⟨h1, q⟩ hg
              · exact q
            have := (f4.1 (f3.2 h2)).2
            omega
          · omega
        rw [if_neg hg]
        have hl := h.len
        by_cases hfull : 399 < m.length
        · have e := (put_9 hr hnf hn (by omega)).1
          rw [if_pos hfull]
          exact ⟨e.symm, hstay (by rw [e]; decide)⟩
        · have e := (put_0 hr hnf hn (by omega)).1
          rw [if_neg hfull]
          exact ⟨e.symm, hnext e⟩
end Go.Proofs.Ytfjnkhanndkpfaa
