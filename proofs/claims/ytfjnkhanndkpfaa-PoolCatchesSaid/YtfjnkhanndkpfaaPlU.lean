/- Pools, plain: whose ops are a beginning of another one's, and how it catches up. No conditions. -/
import Derived.Test.YtfjnkhanndkpfaaPlQ
namespace Go.Proofs.Ytfjnkhanndkpfaa
set_option linter.unusedSimpArgs false
set_option linter.unusedVariables false
set_option maxRecDepth 100000
open Go.RowKit

/-- q has of each replica a beginning of what p has. -/
def Beg (q p : PoolD) : Prop := ∀ i, i < 6 → (q i) <+: (p i)
theorem beg_new (p : PoolD) : Beg newP p := fun i _ => List.nil_prefix
theorem beg_len {q p : PoolD} (h : Beg q p) {i : Nat} (hi : i < 6) : (q i).length ≤ (p i).length := (h i hi).length_le
theorem beg_tot {q p : PoolD} (h : Beg q p) : totP q ≤ totP p := by
  have h0 := beg_len h (i := 0) (by omega); have h1 := beg_len h (i := 1) (by omega); have h2 := beg_len h (i := 2) (by omega)
  have h3 := beg_len h (i := 3) (by omega); have h4 := beg_len h (i := 4) (by omega); have h5 := beg_len h (i := 5) (by omega)
  unfold totP; omega
/-- The next op of a replica is taken. -/
theorem beg_put {q p : PoolD} (hp : OkP p) (h : Beg q p) (hq : totP q < 400) {i : Nat} (hi : i < 6) (hl : (q i).length < (p i).length) : putC q ((p i)[(q i).length]) = 0 ∧ putP q ((p i)[(q i).length]) = updP q i (q i ++ [(p i)[(q i).length]]) := by
  obtain ⟨e, hr⟩ := hp.all i hi _ hl
  have hi' : ((p i)[(q i).length].id.rep - 1).toNat = i := by rw [e]; simp
  have hn : (p i)[(q i).length].id.n = ((q i).length : Int) + 1 := by rw [e]
  have := put_0 (p := q) (o := (p i)[(q i).length]) hr (fun hf => by
    have := (find_has _).1 hf
    unfold hasV lensP at this
    simp only [Bool.and_eq_true, decide_eq_true_eq] at this
    rw [hi', hn] at this
    omega) (by rw [hi', hn]) (by omega)
  rw [hi'] at this
  exact this
theorem beg_upd {q p : PoolD} (h : Beg q p) {i : Nat} (hi : i < 6) (hl : (q i).length < (p i).length) : Beg (updP q i (q i ++ [(p i)[(q i).length]])) p := fun j hj => by
  unfold updP
  split
  · rename_i e
    subst e
    obtain ⟨r, hr⟩ := h j hj
    have hrl : 0 < r.length := by have := congrArg List.length hr; simp at this; omega
    refine ⟨r.tail, ?_⟩
    have e1 : (p j)[(q j).length] = r[0] := by
      have : (p j)[(q j).length]? = (q j ++ r)[(q j).length]? := by rw [hr]
      rw [List.getElem?_append_right (Nat.le_refl _), Nat.sub_self, List.getElem?_eq_getElem hl, List.getElem?_eq_getElem hrl] at this
      exact Option.some.inj this
    rw [e1]
    obtain ⟨a, r', rfl⟩ : ∃ a r', r = a :: r' := by cases r with | nil => cases hrl | cons a r' => exact ⟨a, r', rfl⟩
    simpa using hr
  · exact h j hj
/-- What q lacks of p, in order. -/
def gapL (q p : PoolD) (i : Nat) : List OpD := (p i).drop (q i).length
theorem lack_idx {p : PoolD} (hp : OkP p) {i j : Nat} (hi : i < 6) (hj : j < (p i).length) (v : VecD) : lackV v (p i)[j] = decide (v i < (j : Int) + 1) := by
  obtain ⟨e, hr⟩ := hp.all i hi j hj
  have ht := tag_of hr
  unfold lackV hasV
  rw [ht, e]
  simp only [Bool.true_and]
  rw [show ((i : Int) + 1 - 1).toNat = i by omega]
  by_cases hh : (j : Int) + 1 ≤ v i
  · rw [decide_eq_true hh, decide_eq_false (by omega)]; rfl
  · rw [decide_eq_false hh, decide_eq_true (by omega)]; rfl
theorem filter_idx {l : List OpD} {q : OpD → Bool} {n : Nat} (h : ∀ j (hj : j < l.length), q l[j] = decide (n < j + 1)) : l.filter q = l.drop n := by
  induction l generalizing n with
  | nil => simp
  | cons x l ih =>
    have h0 := h 0 (by simp)
    simp only [List.getElem_cons_zero] at h0
    cases n with
    | zero =>
      rw [List.filter_cons_of_pos (by rw [h0]; decide), List.drop_zero]
      have := ih (n := 0) (fun j hj => by
        have := h (j + 1) (by simp; omega)
        simp only [List.getElem_cons_succ] at this
        rw [this, decide_eq_true (by omega), decide_eq_true (by omega)])
      rw [this, List.drop_zero]
    | succ n =>
      rw [List.filter_cons_of_neg (by rw [h0]; simp), List.drop_succ_cons]
      exact ih (fun j hj => by
        have := h (j + 1) (by simp; omega)
        simp only [List.getElem_cons_succ] at this
        rw [this]
        by_cases e : n < j + 1
        · rw [decide_eq_true e, decide_eq_true (by omega)]
        · rw [decide_eq_false e, decide_eq_false (by omega)])
theorem lack_gap {q p : PoolD} (hp : OkP p) {i : Nat} (hi : i < 6) : (p i).filter (lackV (lensP q)) = gapL q p i := by
  unfold gapL
  refine filter_idx fun j hj => ?_
  rw [lack_idx hp hi hj]
  unfold lensP
  by_cases e : (q i).length < j + 1
  · rw [decide_eq_true e, decide_eq_true (by omega)]
  · rw [decide_eq_false e, decide_eq_false (by omega)]
def gaps (q p : PoolD) : List OpD := gapL q p 0 ++ gapL q p 1 ++ gapL q p 2 ++ gapL q p 3 ++ gapL q p 4 ++ gapL q p 5
theorem since_gaps {q p : PoolD} (hp : OkP p) (n : Int) : sinceL p (lensP q) n = (gaps q p).take n.toNat := by
  unfold sinceL gaps
  rw [cat_eq]
  simp only [List.filter_append]
  rw [lack_gap hp (by omega), lack_gap hp (by omega), lack_gap hp (by omega), lack_gap hp (by omega), lack_gap hp (by omega), lack_gap hp (by omega)]
theorem gap_cons {q p : PoolD} (h : Beg q p) {i : Nat} (hi : i < 6) (hl : (q i).length < (p i).length) : gapL q p i = (p i)[(q i).length] :: gapL (updP q i (q i ++ [(p i)[(q i).length]])) p i := by
  unfold gapL updP
  simp only [if_true, List.length_append, List.length_singleton]
  exact List.drop_eq_getElem_cons hl
theorem gap_ne {q p : PoolD} {i j : Nat} (h : j ≠ i) (l : List OpD) : gapL (updP q i l) p j = gapL q p j := by
  unfold gapL updP; rw [if_neg h]
/-- The first thing that is lacking is taken, and then the next one is the first. -/
theorem gaps_cons {q p : PoolD} (hp : OkP p) (h : Beg q p) {x : OpD} {r : List OpD} (hg : gaps q p = x :: r) : putC q x = 0 ∧ Beg (putP q x) p ∧ gaps (putP q x) p = r := by
  have key : ∀ i, i < 6 → (∀ j, j < i → gapL q p j = []) → gapL q p i ≠ [] → putC q x = 0 ∧ Beg (putP q x) p ∧ gaps (putP q x) p = r := fun i hi hz hn => by
    have hl : (q i).length < (p i).length := by
      rcases Nat.lt_or_ge (q i).length (p i).length with e | e
      · exact e
      · exact absurd (List.drop_eq_nil_of_le e) hn
    have ht : totP q < 400 := by
      have := hp.tot
      have h0 := beg_len h (i := 0) (by omega); have h1 := beg_len h (i := 1) (by omega); have h2 := beg_len h (i := 2) (by omega)
      have h3 := beg_len h (i := 3) (by omega); have h4 := beg_len h (i := 4) (by omega); have h5 := beg_len h (i := 5) (by omega)
      unfold totP
      rcases six hi with rfl | rfl | rfl | rfl | rfl | rfl <;> omega
    have hc := gap_cons h hi hl
    obtain ⟨p1, p2⟩ := beg_put hp h ht hi hl
    have hgx : gaps q p = (p i)[(q i).length] :: gaps (updP q i (q i ++ [(p i)[(q i).length]])) p := by
      unfold gaps
      rcases six hi with rfl | rfl | rfl | rfl | rfl | rfl
      · rw [gap_ne (i := 0) (j := 1) (by decide), gap_ne (i := 0) (j := 2) (by decide), gap_ne (i := 0) (j := 3) (by decide), gap_ne (i := 0) (j := 4) (by decide), gap_ne (i := 0) (j := 5) (by decide), hc]; simp
      · rw [gap_ne (i := 1) (j := 0) (by decide), gap_ne (i := 1) (j := 2) (by decide), gap_ne (i := 1) (j := 3) (by decide), gap_ne (i := 1) (j := 4) (by decide), gap_ne (i := 1) (j := 5) (by decide), hc, hz 0 (by omega)]; simp
      · rw [gap_ne (i := 2) (j := 0) (by decide), gap_ne (i := 2) (j := 1) (by decide), gap_ne (i := 2) (j := 3) (by decide), gap_ne (i := 2) (j := 4) (by decide), gap_ne (i := 2) (j := 5) (by decide), hc, hz 0 (by omega), hz 1 (by omega)]; simp
      · rw [gap_ne (i := 3) (j := 0) (by decide), gap_ne (i := 3) (j := 1) (by decide), gap_ne (i := 3) (j := 2) (by decide), gap_ne (i := 3) (j := 4) (by decide), gap_ne (i := 3) (j := 5) (by decide), hc, hz 0 (by omega), hz 1 (by omega), hz 2 (by omega)]; simp
      · rw [gap_ne (i := 4) (j := 0) (by decide), gap_ne (i := 4) (j := 1) (by decide), gap_ne (i := 4) (j := 2) (by decide), gap_ne (i := 4) (j := 3) (by decide), gap_ne (i := 4) (j := 5) (by decide), hc, hz 0 (by omega), hz 1 (by omega), hz 2 (by omega), hz 3 (by omega)]; simp
      · rw [gap_ne (i := 5) (j := 0) (by decide), gap_ne (i := 5) (j := 1) (by decide), gap_ne (i := 5) (j := 2) (by decide), gap_ne (i := 5) (j := 3) (by decide), gap_ne (i := 5) (j := 4) (by decide), hc, hz 0 (by omega), hz 1 (by omega), hz 2 (by omega), hz 3 (by omega), hz 4 (by omega)]; simp
    rw [hg] at hgx
    injection hgx with e1 e2
    subst e1
    exact ⟨p1, by rw [p2]; exact beg_upd h hi hl, by rw [p2]; exact e2.symm⟩
  by_cases h0 : gapL q p 0 = []
  · by_cases h1 : gapL q p 1 = []
    · by_cases h2 : gapL q p 2 = []
      · by_cases h3 : gapL q p 3 = []
        · by_cases h4 : gapL q p 4 = []
          · refine key 5 (by omega) (fun j hj => ?_) (fun h5 => ?_)
            · obtain rfl | rfl | rfl | rfl | rfl : j = 0 ∨ j = 1 ∨ j = 2 ∨ j = 3 ∨ j = 4 := by omega
              all_goals assumption
            · unfold gaps at hg; rw [h0, h1, h2, h3, h4, h5] at hg; cases hg
          · refine key 4 (by omega) (fun j hj => ?_) h4
            obtain rfl | rfl | rfl | rfl : j = 0 ∨ j = 1 ∨ j = 2 ∨ j = 3 := by omega
            all_goals assumption
        · refine key 3 (by omega) (fun j hj => ?_) h3
          obtain rfl | rfl | rfl : j = 0 ∨ j = 1 ∨ j = 2 := by omega
          all_goals assumption
      · refine key 2 (by omega) (fun j hj => ?_) h2
        obtain rfl | rfl : j = 0 ∨ j = 1 := by omega
        all_goals assumption
    · refine key 1 (by omega) (fun j hj => ?_) h1
      obtain rfl : j = 0 := by omega
      assumption
  · exact key 0 (by omega) (fun j hj => absurd hj (by omega)) h0
theorem gaps_nil {q p : PoolD} (h : Beg q p) (hg : gaps q p = []) : ∀ i, i < 6 → q i = p i := by
  have key : ∀ i, i < 6 → gapL q p i = [] → q i = p i := fun i hi e => by
    obtain ⟨r, hr⟩ := h i hi
    have hl : (p i).length ≤ (q i).length := List.drop_eq_nil_iff.1 e
    have : r = [] := by
      have := congrArg List.length hr
      simp at this
      exact List.eq_nil_of_length_eq_zero (by omega)
    rw [← hr, this, List.append_nil]
  unfold gaps at hg
  simp only [List.append_eq_nil_iff] at hg
  obtain ⟨⟨⟨⟨⟨h0, h1⟩, h2⟩, h3⟩, h4⟩, h5⟩ := hg
  intro i hi
  rcases six hi with rfl | rfl | rfl | rfl | rfl | rfl
  · exact key 0 hi h0
  · exact key 1 hi h1
  · exact key 2 hi h2
  · exact key 3 hi h3
  · exact key 4 hi h4
  · exact key 5 hi h5
theorem same_cat {q p : PoolD} (h : ∀ i, i < 6 → q i = p i) : catP q = catP p := by
  rw [cat_eq, cat_eq, h 0 (by omega), h 1 (by omega), h 2 (by omega), h 3 (by omega), h 4 (by omega), h 5 (by omega)]
theorem beg_any {q p : PoolD} (hp : OkP p) (h : Beg q p) {x : OpD} (hx : x ∈ catP p) : Beg (putP q x) p := by
  obtain ⟨i, hi, hxi⟩ := mem_cat.1 hx
  obtain ⟨a, b, c, d⟩ := hp.mem hi hxi
  by_cases hc : putC q x = 0
  · obtain ⟨h1, h2, h3, h4⟩ := put_case hc
    have hi' : (x.id.rep - 1).toNat = i := by omega
    rw [hi'] at h2 h4
    have hl : (q i).length < (p i).length := by omega
    have hx' : x = (p i)[(q i).length] := by
      rw [show (x.id.n - 1).toNat = (q i).length by omega, List.getElem?_eq_getElem hl] at d
      exact (Option.some.inj d).symm
    rw [h4, hx']
    exact beg_upd h hi hl
  · rw [(put_no hc).2]; exact h
end Go.Proofs.Ytfjnkhanndkpfaa
