/- Openers: an argument of a law, as data that can be read, opened to what the walks speak of. No conditions. -/
import Derived.Test.YtdgcbhihmnhnaaaKit
import Derived.ProofKit
import Derived.OpenShut
import Derived.ShutString
import Derived.ChangeOld
import Derived.Below
namespace Go.Proofs.Ytdgcbhihmnhnaaa
set_option linter.unusedSimpArgs false
set_option linter.unusedVariables false
set_option maxRecDepth 100000
open Go.RowKit Go.ChangeShapes Go.WideShapes Go.ChangeAt
section
variable {H : Type} {enc : TypeId × Value → H} {P : Program} {W : World} {base b0 : Nat} {sp : Nat → Bool} {held : Bool} {r : Reach}

theorem byte_of_wf {n : Int} (h : (Lit.int .u8 n).wf = true) : ∃ b : UInt8, n = (b.toNat : Nat) := by
  have hb := bounds_u8 h
  refine ⟨UInt8.ofNat n.toNat, ?_⟩; rw [UInt8.toNat_ofNat_of_lt' (by show n.toNat < 256; omega)]; omega

theorem bytes_of_ints (zs : List Int) (h : ∀ n ∈ zs, (Lit.int .u8 n).wf = true) : ∃ l : List UInt8, zs.map (Value.int .u8) = bvs l := by
  induction zs with
  | nil => exact ⟨[], rfl⟩
  | cons z zs ih =>
    obtain ⟨l, hl⟩ := ih fun n hn => h n (List.mem_cons_of_mem _ hn)
    obtain ⟨b, rfl⟩ := byte_of_wf (h z List.mem_cons_self)
    exact ⟨b :: l, by simp [bvs, bv, List.map_cons] at hl ⊢; exact hl⟩

/-- A slice of bytes. -/
theorem open_bytes {t e : TypeId} (ht : P.underlying t = some (.slice e)) (he : P.underlying e = some (.int .u8)) (hce : P.cellsOf e = 1) {v : Value} {d : DataW H} {p : List MemPlace}
    (hv : Value.okWide P W r b0 t v) (h : DataW.Trod enc P W base sp held t v d p) :
    ∃ A n c l, v = .slice A n c ∧ Rd W W.heap.size 1 A n (bvs l) ∧ n ≤ c ∧ c ≤ maxLen := by
  obtain ⟨A, n, c, rfl⟩ := okWide_slice ht hv
  obtain ⟨fuel, hf⟩ := h
  rcases open_ints ht he hce hf with ⟨hcs, _⟩ | ⟨x, l, c', zs, hcs, _, hl, hm, hz, _, hcell, hwz⟩
  · simp [Value.cells] at hcs
    obtain ⟨rfl, rfl, rfl⟩ := hcs
    exact ⟨none, 0, 0, [], rfl, Rd.none_, Nat.le_refl _, by unfold maxLen; omega⟩
  · simp [Value.cells] at hcs
    obtain ⟨rfl, rfl, rfl⟩ := hcs
    have hzn : n ≤ zs.length := by rw [hz]; split <;> omega
    obtain ⟨bs, hbs⟩ := bytes_of_ints (zs.take n) fun m hm => hwz m (List.mem_of_mem_take hm)
    have hlen : bs.length = n := by
      have := congrArg List.length hbs
      rw [bvs_len] at this
      simp at this
      omega
    refine ⟨some x, n, c, bs, rfl, ⟨by rw [bvs_len]; omega, fun hn => ?_⟩, hl, hm⟩; obtain ⟨xb, xo, xs⟩ := x
    have h0 := hcell 0 (by omega)
    have hs : xs = none := by simpa [Addr.add] using World.cell?_spot h0
    subst hs
    refine ⟨xb, xo, rfl, ?_, fun j hj => ?_⟩
    · have := block_lt_of_cell h0
      rwa [Go.Proofs.Ytdgcbhihmnhnaaa.block_of_add'] at this
    · rw [bvs_len] at hj
      have hc := hcell j (by omega)
      have ha : (⟨xb, xo, none⟩ : Addr).add j = ⟨xb, xo + j, none⟩ := by unfold Addr.add; split <;> simp_all
      rw [ha] at hc
      rw [hc, ← hbs, List.getElem?_map, List.getElem?_take, if_pos (by omega)]
      simp [List.getD, show j < zs.length by omega]

/-- An array of 256 numbers of 32 bits. -/
theorem open_table {t e : TypeId} (ht : P.underlying t = some (.array 256 e)) (he : P.underlying e = some (.int .u32)) (hce : P.cellsOf e = 1) (hct : P.cellsOf t = 256) {v : Value} {d : DataW H} {p : List MemPlace}
    (hv : Value.okWide P W r b0 t v) (h : DataW.Trod enc P W base sp held t v d p) :
    ∃ f : Nat → Nat, (∀ i, i < 256 → f i < 4294967296) ∧ v = .agg ((List.range 256).map fun i => Value.int .u32 (f i)).toArray := by
  have hv' : ∃ cs, v = .agg cs ∧ cs.size = P.cellsOf t := by
    simp only [Value.okWide, ht] at hv
    obtain ⟨cs, h1, h2, _⟩ := hv
    exact ⟨cs, h1, h2⟩
  obtain ⟨cs, rfl, hsz⟩ := hv'
  obtain ⟨fuel, hf⟩ := h
  obtain ⟨xs, m, _, _, hl, hxl, hi⟩ := DataW.trod_array ht hf
  have key : ∀ i, i < 256 → ∃ z : Nat, z < 4294967296 ∧ cs[i]? = some (.int .u32 (z : Int)) := by
    intro i hi'
    have h1 := hi i hi'
    rw [hce, Nat.mul_one] at h1
    simp only [Value.cells] at h1
    have hx : xs[i]? = some (xs[i]'(by omega)) := List.getElem?_eq_getElem (by omega)
    have hone : (cs.toList.drop i).take 1 = [cs[i]'(by omega)] := by
      rw [List.drop_eq_getElem_cons (by simp; omega)]
      simp
    rw [hone, hx] at h1
    obtain ⟨n, e1, _, wn⟩ := DataW.trod_int he h1
    have hb := bounds_u32 wn
    simp at e1
    refine ⟨n.toNat, by omega, ?_⟩; rw [Array.getElem?_eq_getElem (by omega), e1, show ((n.toNat : Nat) : Int) = n by omega]
  refine ⟨fun i => match cs[i]? with | some (.int .u32 z) => z.toNat | _ => 0, ?_, ?_⟩
  · intro i hi'; obtain ⟨z, hz, hc⟩ := key i hi'; simp only [hc]; omega
  · congr 1
    apply Array.ext_getElem?
    intro i
    by_cases hi' : i < 256
    · obtain ⟨z, hz, hc⟩ := key i hi'
      rw [hc]
      simp [hi', hc]
    · rw [Array.getElem?_eq_none (by omega), Array.getElem?_eq_none (by simp; omega)]
end
end Go.Proofs.Ytdgcbhihmnhnaaa
