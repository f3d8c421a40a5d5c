/- Pools, plain: ops of unlike replicas commute; a pool that is full. No conditions. -/
import Derived.Test.YtfjnkhanndkpfaaPlQ
namespace Go.Proofs.Ytfjnkhanndkpfaa
set_option linter.unusedSimpArgs false
set_option linter.unusedVariables false
set_option maxRecDepth 100000
open Go.RowKit

/-- One more op of one replica's row, where there is room. -/
def put1 (l : List OpD) (o : OpD) : List OpD := if rightO o = true ∧ o.id.n = (l.length : Int) + 1 then l ++ [o] else l
def rowO (o : OpD) : Nat := (o.id.rep - 1).toNat
theorem put_room {p : PoolD} {o : OpD} (ht : totP p < 400) : putP p o = updP p (rowO o) (put1 (p (rowO o)) o) := by
  unfold rowO put1
  by_cases hc : putC p o = 0
  · obtain ⟨h1, h2, h3, h4⟩ := put_case hc
    rw [h4, if_pos ⟨h1, h2⟩]
  · rw [(put_no hc).2, if_neg]
    · funext j; unfold updP; split
      · rename_i e; rw [e]
      · rfl
    · rintro ⟨h1, h2⟩
      refine hc (put_0 h1 (fun hf => ?_) h2 (by omega)).1
      have := (find_has _).1 hf
      unfold hasV lensP at this
      simp only [Bool.and_eq_true, decide_eq_true_eq] at this
      omega
def putsP (p : PoolD) (l : List OpD) : PoolD := l.foldl putP p
theorem tot_puts (p : PoolD) (l : List OpD) : totP (putsP p l) ≤ totP p + l.length := by
  induction l generalizing p with
  | nil => exact Nat.le_refl _
  | cons x l ih =>
    have h1 := ih (putP p x)
    have h2 := tot_put p x
    have h3 : putsP p (x :: l) = putsP (putP p x) l := rfl
    rw [h3, List.length_cons]
    split at h2 <;> omega
theorem OkP.puts {p : PoolD} (h : OkP p) (l : List OpD) : OkP (putsP p l) := by
  induction l generalizing p with
  | nil => exact h
  | cons x l ih => exact ih (h.put x)
theorem puts_snoc (p : PoolD) (l : List OpD) (x : OpD) : putsP p (l ++ [x]) = putP (putsP p l) x := by
  unfold putsP; rw [List.foldl_append]; rfl
/-- A right op of that row. -/
def mine (i : Nat) (o : OpD) : Bool := rightO o && decide (rowO o = i)
theorem put1_no {l : List OpD} {o : OpD} (h : rightO o = false) : put1 l o = l := by unfold put1; rw [if_neg (fun q => by rw [h] at q; exact absurd q.1 (by decide))]
/-- Each replica's row behind some ops: its own ones alone count. -/
theorem puts_row {p : PoolD} {l : List OpD} (ht : totP p + l.length < 400) (i : Nat) : putsP p l i = (l.filter (mine i)).foldl put1 (p i) := by
  induction l generalizing p with
  | nil => rfl
  | cons x l ih =>
    have h2 := tot_put p x
    rw [List.length_cons] at ht
    have h3 : putsP p (x :: l) = putsP (putP p x) l := rfl
    rw [h3, ih (by split at h2 <;> omega), put_room (by omega)]
    cases hr : rightO x with
    | false =>
      rw [List.filter_cons_of_neg (by simp [mine, hr]), put1_no hr]
      unfold updP
      split
      · rename_i e; rw [e]
      · rfl
    | true =>
      by_cases e : rowO x = i
      · subst e
        rw [List.filter_cons_of_pos (by simp [mine, hr]), List.foldl_cons]
        unfold updP; rw [if_pos rfl]
      · rw [List.filter_cons_of_neg (by simp [mine, e])]
        unfold updP; rw [if_neg (fun h => e h.symm)]
/-- The next op of the first list comes ahead of what came of the second one. -/
theorem puts_turn {a b : List OpD} {x : OpD} (h : ∀ y ∈ b, x.id.rep ≠ y.id.rep) (ht : a.length + b.length + 1 < 400) : putsP newP (a ++ b ++ [x]) = putsP newP (a ++ [x] ++ b) := by
  have hz : totP newP = 0 := rfl
  funext i
  rw [puts_row (by simp; omega), puts_row (by simp; omega)]
  congr 1
  simp only [List.filter_append]
  by_cases e : mine i x = true
  · have hb : b.filter (mine i) = [] := by
      rw [List.filter_eq_nil_iff]
      intro y hy hm
      unfold mine at e hm
      simp only [Bool.and_eq_true, decide_eq_true_eq] at e hm
      have h1 := rep_six e.1; have h2 := rep_six hm.1
      have e1 := e.2; have e2 := hm.2
      unfold rowO at e1 e2
      exact h y hy (by omega)
    rw [hb]; simp
  · rw [List.filter_cons_of_neg (by simpa using e)]; simp
/-- Turn by turn. -/
theorem turn_a {a b : List OpD} {j k : Nat} (hab : ∀ x ∈ a, ∀ y ∈ b, x.id.rep ≠ y.id.rep) (hl : a.length + b.length < 399) (hj : j < a.length) : putP (putsP newP (a.take j ++ b.take k)) a[j] = putsP newP (a.take (j + 1) ++ b.take k) := by
  rw [← puts_snoc, puts_turn (fun y hy => hab _ (List.getElem_mem hj) y (List.mem_of_mem_take hy)) (by simp only [List.length_take]; omega), List.take_succ_eq_append_getElem hj]
theorem turn_b {a b : List OpD} {j k : Nat} (hk : k < b.length) : putP (putsP newP (a.take j ++ b.take k)) b[k] = putsP newP (a.take j ++ b.take (k + 1)) := by
  rw [← puts_snoc, List.take_succ_eq_append_getElem hk, List.append_assoc]
theorem row_next {a : List OpD} {p : PoolD} {j : Nat} (hj : j < a.length) : putP (putsP p (a.take j)) a[j] = putsP p (a.take (j + 1)) := by
  rw [← puts_snoc, List.take_succ_eq_append_getElem hj]
/-! A pool that is full. -/
def fo (f i : Nat) : OpD := ⟨⟨((((f % 6 + i) % 6 : Nat) : Int) + 1), ((i / 6 : Nat) : Int) + 1⟩, ⟨0, 0⟩, (i : Int) + 1, [97], 5, [], ⟨0, [], []⟩, 0, false, [], []⟩
theorem fo_right (f i : Nat) (hi : i < 1000) : rightO (fo f i) = true := by
  have h1 : (f % 6 + i) % 6 < 6 := Nat.mod_lt _ (by omega)
  have ht : tagB (fo f i).id = true := by
    unfold tagB fo
    simp only [Bool.and_eq_true, decide_eq_true_eq]
    omega
  have hd : dropsB (fo f i) = true := by unfold dropsB fo; rfl
  have hn : nameB (fo f i).cart = true := by show nameB [97] = true; decide +kernel
  unfold rightO
  rw [ht, hd, hn]
  simp [fo, partsO, sO, plO, itO]
  omega
structure FullJ (f i : Nat) (p : PoolD) : Prop where
  ok : OkP p
  tot : totP p = min i 400
  row : ∀ r, r < 6 → (p r).length = (min i 400 + 5 - (r + 6 - f % 6) % 6) / 6
theorem full_0 (f : Nat) : FullJ f 0 newP := ⟨okP_new, rfl, fun r hr => by simp [newP]; omega⟩
section
variable {f i : Nat} {p : PoolD} (h : FullJ f i p) (hi : i < 407)
include h hi
omit hi in
theorem full_row : (p ((fo f i).id.rep - 1).toNat).length = (min i 400 + 5 - (((f % 6 + i) % 6) + 6 - f % 6) % 6) / 6 := by
  have e : ((fo f i).id.rep - 1).toNat = (f % 6 + i) % 6 := by unfold fo; simp only; omega
  rw [e]
  exact h.row _ (Nat.mod_lt _ (by omega))
theorem full_no : ¬ (findP p (fo f i).id).2 = 0 := fun hf => by
  have := (find_has _).1 hf
  unfold hasV lensP at this
  simp only [Bool.and_eq_true, decide_eq_true_eq] at this
  have h2 := this.2
  rw [full_row h] at h2
  unfold fo at h2
  simp only at h2
  omega
theorem full_go (h4 : i < 400) : putC p (fo f i) = 0 ∧ putC (putP p (fo f i)) (fo f i) = 7 ∧ FullJ f (i + 1) (putP (putP p (fo f i)) (fo f i)) := by
  have hr := fo_right f i (by omega)
  have hrow := full_row h
  have htot := h.tot
  have hn : (fo f i).id.n = ((p ((fo f i).id.rep - 1).toNat).length : Int) + 1 := by
    rw [hrow]; unfold fo; simp only; omega
  obtain ⟨c0, p0⟩ := put_0 hr (full_no h hi) hn (by omega)
  have e : ((fo f i).id.rep - 1).toNat = (f % 6 + i) % 6 := by unfold fo; simp only; omega
  have hi6 : (f % 6 + i) % 6 < 6 := Nat.mod_lt _ (by omega)
  have hok1 := h.ok.put (fo f i)
  have hlen1 : (putP p (fo f i) ((f % 6 + i) % 6)) = p ((f % 6 + i) % 6) ++ [fo f i] := by rw [p0, e]; unfold updP; rw [if_pos rfl]
  have hf : findP (putP p (fo f i)) (fo f i).id = (fo f i, 0) := by
    unfold findP
    rw [e] at hn
    have hh : hasV (lensP (putP p (fo f i))) (fo f i).id = true := by
      unfold hasV lensP
      rw [tag_of hr, e, hlen1]
      simp only [Bool.true_and, decide_eq_true_eq, List.length_append, List.length_singleton]; omega
    rw [if_pos hh, e, hlen1, show ((fo f i).id.n - 1).toNat = (p ((f % 6 + i) % 6)).length by omega]
    simp
  have c1 := put_7 (p := putP p (fo f i)) hr (by rw [hf]) (by rw [hf])
  refine ⟨c0, c1.1, ?_⟩
  rw [c1.2]
  refine ⟨hok1, ?_, fun r hr6 => ?_⟩
  · rw [tot_put, if_pos c0, htot]; omega
  · have hrr := h.row r hr6
    by_cases er : r = (f % 6 + i) % 6
    · subst er
      rw [hlen1, List.length_append, hrr]
      simp only [List.length_singleton]
      omega
    · rw [p0, e]
      unfold updP
      rw [if_neg er, hrr]
      omega
theorem full_stop (h4 : 400 ≤ i) : (putC p (fo f i) = 9 ∨ putC p (fo f i) = 17) ∧ FullJ f (i + 1) (putP (putP p (fo f i)) (fo f i)) := by
  have hr := fo_right f i (by omega)
  have htot := h.tot
  have key : putC p (fo f i) = 9 ∨ putC p (fo f i) = 17 := by
    by_cases hn : (fo f i).id.n = ((p ((fo f i).id.rep - 1).toNat).length : Int) + 1
    · exact .inl (put_9 hr (full_no h hi) hn (by omega)).1
    · exact .inr (put_17 hr (full_no h hi) hn).1
  have e := (put_no (p := p) (o := fo f i) (by rcases key with e | e <;> rw [e] <;> decide)).2
  refine ⟨key, ?_⟩
  rw [e, e]
  exact ⟨h.ok, by rw [htot]; omega, fun r hr6 => by rw [h.row r hr6]; omega⟩
end
end Go.Proofs.Ytfjnkhanndkpfaa
