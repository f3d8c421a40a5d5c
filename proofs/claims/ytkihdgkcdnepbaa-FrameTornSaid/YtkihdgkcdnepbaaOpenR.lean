/- Openers: a slice of rows of bytes. No conditions. -/
import Derived.Test.YtkihdgkcdnepbaaOpen
import Derived.Test.YtkihdgkcdnepbaaAppV
import Derived.Deep.Slices
namespace Go.Proofs.Ytkihdgkcdnepbaa
set_option linter.unusedSimpArgs false
set_option linter.unusedVariables false
open Go.RowKit Go.ChangeShapes Go.WideShapes Go.ChangeAt Go.Deep
section
variable {H : Type} {enc : TypeId × Value → H} {P : Program} {W : World} {base b0 : Nat} {sp : Nat → Bool} {held : Bool} {r : Reach}

theorem bytes_core {t e : TypeId} (ht : P.underlying t = some (.slice e)) (he : P.underlying e = some (.int .u8)) (hce : P.cellsOf e = 1) {v : Value} {fuel : Nat} {x : DataW H × List MemPlace}
    (hf : DataW.trod enc P W base sp held fuel t [v] = some x) : ∃ A n c l, v = .slice A n c ∧ Rd W W.heap.size 1 A n (bvs l) ∧ n ≤ c ∧ c ≤ maxLen := by
  rcases open_ints ht he hce hf with ⟨hcs, _⟩ | ⟨x, n, c, zs, hcs, _, hl, hm, hz, _, hcell, hwz⟩
  · injection hcs with hcs
    subst hcs
    exact ⟨none, 0, 0, [], rfl, Rd.none_, Nat.le_refl _, by unfold maxLen; omega⟩
  · injection hcs with hcs
    subst hcs
    have hzn : n ≤ zs.length := by rw [hz]; split <;> omega
    obtain ⟨bs, hbs⟩ := bytes_of_ints (zs.take n) fun m hm => hwz m (List.mem_of_mem_take hm)
    have hlen : bs.length = n := by
      have := congrArg List.length hbs
      rw [bvs_len] at this
      simp at this
      omega
    refine ⟨some x, n, c, bs, rfl, ⟨by rw [bvs_len]; omega, fun hn => ?_⟩, hl, hm⟩
    obtain ⟨xb, xo, xs⟩ := x
    have h0 := hcell 0 (by omega)
    have hs : xs = none := by simpa [Addr.add] using World.cell?_spot h0
    subst hs
    refine ⟨xb, xo, rfl, ?_, fun j hj => ?_⟩
    · have := block_lt_of_cell h0
      rwa [Go.Proofs.Ytkihdgkcdnepbaa.block_of_add'] at this
    · rw [bvs_len] at hj
      have hc := hcell j (by omega)
      have ha : (⟨xb, xo, none⟩ : Addr).add j = ⟨xb, xo + j, none⟩ := by unfold Addr.add; split <;> simp_all
      rw [ha] at hc
      rw [hc, ← hbs, List.getElem?_map, List.getElem?_take, if_pos (by omega)]
      simp [List.getD, show j < zs.length by omega]

theorem list_of {α : Type} (n : Nat) (p : Nat → α → Prop) (h : ∀ i, i < n → ∃ a, p i a) : ∃ l : List α, l.length = n ∧ ∀ i (hi : i < l.length), p i l[i] := by
  induction n with
  | zero => exact ⟨[], rfl, fun i hi => absurd hi (by simp)⟩
  | succ n ih =>
    obtain ⟨l, h1, h2⟩ := ih fun i hi => h i (by omega)
    obtain ⟨a, ha⟩ := h n (by omega)
    refine ⟨l ++ [a], by simp [h1], fun i hi => ?_⟩
    rcases Nat.lt_or_ge i l.length with h3 | h3
    · rw [List.getElem_append_left h3]; exact h2 i h3
    · obtain rfl : i = l.length := by rw [List.length_append, List.length_singleton] at hi; omega
      rw [List.getElem_append_right (by omega)]
      simpa [h1] using ha

/-- A slice of slices of bytes. -/
theorem open_rows {t e q : TypeId} (ht : P.underlying t = some (.slice e)) (he : P.underlying e = some (.slice q)) (hq : P.underlying q = some (.int .u8)) (hce : P.cellsOf e = 1) (hcq : P.cellsOf q = 1) {v : Value} {d : DataW H} {p : List MemPlace}
    (hv : Value.okWide P W r b0 t v) (h : DataW.Trod enc P W base sp held t v d p) :
    ∃ A n c rs, v = .slice A n c ∧ RdR W A n rs ∧ n ≤ c ∧ c ≤ maxLen := by
  obtain ⟨A, n, c, rfl⟩ := okWide_slice ht hv
  obtain ⟨fuel, hf⟩ := h
  rcases open_slice1 ht hce hf with ⟨hcs, _⟩ | ⟨a, len, cap, m, fu, V, D, Pl, hcs, _, hl, hm, hmm, _, hx⟩
  · simp [Value.cells] at hcs
    obtain ⟨rfl, rfl, rfl⟩ := hcs
    exact ⟨none, 0, 0, [], rfl, ⟨[], Rd.none_, rfl, fun i hi => absurd hi (by simp)⟩, Nat.le_refl _, by unfold maxLen; omega⟩
  · simp [Value.cells] at hcs
    obtain ⟨rfl, rfl, rfl⟩ := hcs
    have hnm : n ≤ m := by rw [hmm]; split <;> omega
    obtain ⟨rs, hr1, hr2⟩ := list_of n (fun i b => RowOk W none (V i) b) fun i hi => by
      obtain ⟨A, k, c', l, h1, h2, h3, h4⟩ := bytes_core he hq hcq (hx i (by omega)).2
      exact ⟨l, A, k, c', h1, h3, h4, h2, fun _ _ _ h => by cases h⟩
    refine ⟨some a, n, c, rs, rfl, ⟨(List.range n).map V, ⟨by simp, fun hn => ?_⟩, by simp [hr1], fun i hi => ⟨V i, by rw [List.getElem?_map, List.getElem?_range (by omega)]; rfl, hr2 i hi⟩⟩, hl, hm⟩
    obtain ⟨xb, xo, xs⟩ := a
    have h0 := (hx 0 (by omega)).1
    have hs : xs = none := by simpa [Addr.add] using World.cell?_spot h0
    subst hs
    refine ⟨xb, xo, rfl, ?_, fun j hj => ?_⟩
    · have := block_lt_of_cell h0
      rwa [Go.Proofs.Ytkihdgkcdnepbaa.block_of_add'] at this
    · simp at hj
      have hc := (hx j (by omega)).1
      have ha : (⟨xb, xo, none⟩ : Addr).add j = ⟨xb, xo + j, none⟩ := by unfold Addr.add; split <;> simp_all
      rw [ha] at hc
      rw [hc]
      simp [hj]
end
end Go.Proofs.Ytkihdgkcdnepbaa
