/- Slices of one-cell values that the call itself made, of any element type: append onto them. No conditions. -/
import Derived.Test.YtkihdgkcdnepbaaApp
namespace Go.Proofs.Ytkihdgkcdnepbaa
set_option linter.unusedSimpArgs false
set_option linter.unusedVariables false
open Go.RowKit

/-- The slice '.slice A n c' of elements of the type el (one cell each) is the call's own: nil, or it begins at the head of a row in a block from base on; it holds xs. -/
def OwnV (el : TypeId) (w : World) (base : Nat) (A : Option Addr) (n c : Nat) (xs : List Value) : Prop := xs.length = n ∧ w.ownsRow base el 1 (.slice A n c) n xs

section
variable {el : TypeId} {w w' : World} {base n c : Nat} {A : Option Addr} {l : List Value}
theorem OwnV.rd (h : OwnV el w base A n c l) : Rd w w.heap.size 1 A n l := Rd.of_own h.2
theorem OwnV.len (h : OwnV el w base A n c l) : l.length = n := h.1
theorem OwnV.nc (h : OwnV el w base A n c l) : n ≤ c := by
  rcases h.2.2 with ⟨h1, _⟩ | ⟨g, cap, cur, h1, _, _, h2, _⟩
  · injection h1 with _ h1 h2; omega
  · injection h1 with _ _ h1; omega
theorem OwnV.cm (h : OwnV el w base A n c l) : c ≤ maxLen := by
  rcases h.2.2 with ⟨h1, _⟩ | ⟨g, cap, cur, h1, _, _, _, h2, _⟩
  · injection h1 with _ h1 h2; rw [h2]; exact Nat.zero_le _
  · injection h1 with _ _ h1; omega
theorem OwnV.nil_ (el : TypeId) (w : World) (base : Nat) : OwnV el w base none 0 0 [] := ⟨rfl, World.ownsRow_nil w base _ 1⟩
theorem OwnV.below (h : OwnV el w base A n c l) (hb : Below w.heap.size w w') : OwnV el w' base A n c l :=
  ⟨h.1, h.2.1, by
    rcases h.2.2 with ⟨h1, h2⟩ | ⟨g, cap, cur, h1, h2, h3, h4⟩
    · exact .inl ⟨h1, h2⟩
    · exact .inr ⟨g, cap, cur, h1, h2, blk_keep h3 hb, h4⟩⟩
theorem OwnV.alloc (h : OwnV el w base A n c l) (o : Obj) : OwnV el (w.alloc o) base A n c l := ⟨h.1, h.2.alloc o⟩
theorem OwnV.lt (h : OwnV el w base A n c l) : ∀ k, (Value.slice A n c).ownBlock = some k → base ≤ k ∧ k < w.heap.size := h.2.lt
theorem OwnV.base_le (h : OwnV el w base A n c l) {b' : Nat} (hb : b' ≤ base) : OwnV el w b' A n c l :=
  ⟨h.1, h.2.1, by
    rcases h.2.2 with ⟨h1, h2⟩ | ⟨g, cap, cur, h1, h2, h4⟩
    · exact .inl ⟨h1, h2⟩
    · exact .inr ⟨g, cap, cur, h1, Nat.le_trans hb h2, h4⟩⟩
theorem OwnV.empty (el : TypeId) (w : World) (hb : base ≤ w.heap.size) : OwnV el (w.alloc (.cells #[] el)) base (some ⟨w.heap.size, 0, none⟩) 0 0 [] :=
  ⟨rfl, World.ownsRow_lit (size := 1) w #[] 0 hb (by unfold maxLen; omega) rfl⟩
end

theorem wp_appV {o : Oper} {a : Act} {K : Act → World → Prop} {Q : Exit → Act → World → Prop} (T el : TypeId) (z : Value) (by_ : Nat) (hT : Try.prog.underlying T = some (.slice el)) (hinfo : (Try.prog.info? el).map (fun i => (i.zero, i.size, i.bytes)) = some (some z, 1, by_))
    (hz : z.cells.size = 1) (w : World) (s x : Operand)
    (ho : o.op = .call { callee := .builtin .append, args := #[s, x], argTypes := #[T, T] })
    (base : Nat) (A : Option Addr) (n c : Nat) (l : List Value) (hs : a.eval s = .slice A n c) (hown : OwnV el w base A n c l)
    (ad : Addr) (m c2 : Nat) (l2 : List Value) (hx : a.eval x = .slice (some ad) m c2) (hr : Rd w w.heap.size 1 (some ad) m l2) (h1 : ∀ u ∈ l2, u.oneCell' = true)
    (hsz : (n + m) * by_ ≤ 140737488355328) (hm : n + m ≤ maxLen) (hbase : base ≤ w.heap.size)
    (h : ∀ A' c' w', OwnV el w' base A' (n + m) c' (l ++ l2) → w.grownBy w' (Value.slice A n c).ownBlock → ((Value.slice A' (n + m) c').ownBlock = (Value.slice A n c).ownBlock ∨ (Value.slice A' (n + m) c').ownBlock = some w.heap.size) → K (a.put o.dst (.slice A' (n + m) c')) w') : o.wp Try.prog a w K Q := by
  obtain ⟨i, hi, hz0, hz1, hz2⟩ := info_parts hinfo
  have hcells : ∀ j u, l2[j]? = some u → w.cell? (ad.add j) = some u := by
    intro j u hu
    have hj := (List.getElem?_eq_some_iff.1 hu).1
    have hl := hr.len1
    obtain ⟨b, off, h', _, hc⟩ := hr.2 (by omega)
    injection h' with h'
    subst h'
    have ha : (⟨b, off, none⟩ : Addr).add j = ⟨b, off + j, none⟩ := by unfold Addr.add; split <;> simp_all
    rw [ha, hc j hj, hu]
  obtain ⟨v', w', hrun, h2, h3, _, h4⟩ := run_append_own_at (P := Try.prog) w base T o.type el i z 1 by_ hT hi hz0 hz1 hz2 hz (by decide) _ n _ hown.2 ad m c2 l2 (by rw [hr.len1, Nat.mul_one]) hcells h1 hm hsz hbase
  have hex : ∃ A' c', v' = .slice A' (n + m) c' := by
    rcases h2.2 with ⟨h', h0⟩ | ⟨g, cap, cur, h', _⟩
    · exact ⟨none, 0, by rw [h', h0]⟩
    · exact ⟨_, cap, h'⟩
  obtain ⟨A', c', rfl⟩ := hex
  unfold Oper.wp execOp
  simp only [ho, resolve, invoke, builtin, Sem.run_bind, Sem.run_pure, Result.andThen_ok, List.map_toArray, List.map_cons, List.map_nil, hs, hx, hrun]
  exact h A' c' w' ⟨by rw [List.length_append, hown.1, hr.len1], h2⟩ h3 h4

/-- One value of one cell in a new row, as append takes it. -/
theorem Rd.oneV (w : World) (v : Value) (el : TypeId) : Rd (w.alloc (.cells #[v] el)) (w.alloc (.cells #[v] el)).heap.size 1 (some ⟨w.heap.size, 0, none⟩) 1 [v] :=
  Rd.laid w #[v] el (0, 0) 1 [v] rfl rfl

/-! Rows of bytes. -/
theorem Try.infoBytes : (Try.prog.info? 22).map (fun i => (i.zero, i.size, i.bytes)) = some (some (.slice none 0 0), 1, 24) := by kernel_rfl

/-- The value is a slice of the bytes r, which lie below B and not in the block own. -/
def RowOk (w : World) (own : Option Nat) (v : Value) (r : List UInt8) : Prop := ∃ A n c, v = .slice A n c ∧ n ≤ c ∧ c ≤ maxLen ∧ Rd w w.heap.size 1 A n (bvs r) ∧ (0 < n → ∀ ad, A = some ad → own ≠ some ad.block)
def RowsOk (w : World) (own : Option Nat) (vs : List Value) (rs : List (List UInt8)) : Prop := vs.length = rs.length ∧ ∀ i (h : i < rs.length), ∃ v, vs[i]? = some v ∧ RowOk w own v rs[i]
theorem RowOk.below {w w' : World} {own : Option Nat} {v : Value} {r : List UInt8} (h : RowOk w own v r) (hb : Below w.heap.size w w') : RowOk w' own v r := by
  obtain ⟨A, n, c, h1, h2, h3, h4, h5⟩ := h
  exact ⟨A, n, c, h1, h2, h3, h4.below' hb, h5⟩
theorem RowsOk.below {w w' : World} {own : Option Nat} {vs : List Value} {rs : List (List UInt8)} (h : RowsOk w own vs rs) (hb : Below w.heap.size w w') : RowsOk w' own vs rs :=
  ⟨h.1, fun i hi => by obtain ⟨v, h1, h2⟩ := h.2 i hi; exact ⟨v, h1, h2.below hb⟩⟩
theorem RowOk.free {w : World} {own : Option Nat} {v : Value} {r : List UInt8} (h : RowOk w own v r) : RowOk w none v r := by
  obtain ⟨A, n, c, h1, h2, h3, h4, h5⟩ := h
  exact ⟨A, n, c, h1, h2, h3, h4, fun _ _ _ h => by cases h⟩
theorem RowsOk.free {w : World} {own : Option Nat} {vs : List Value} {rs : List (List UInt8)} (h : RowsOk w own vs rs) : RowsOk w none vs rs :=
  ⟨h.1, fun i hi => by obtain ⟨v, h1, h2⟩ := h.2 i hi; exact ⟨v, h1, h2.free⟩⟩
/-- A row outside the slice that grew lies as before, and outside of what that has become. -/
theorem RowOk.grown {w w' : World} {own own' : Option Nat} {v : Value} {r : List UInt8} (h : RowOk w own v r) (hg : w.grownBy w' own) (ho : own' = own ∨ own' = some w.heap.size) : RowOk w' own' v r := by
  obtain ⟨A, n, c, h1, h2, h3, h4, h5⟩ := h
  refine ⟨A, n, c, h1, h2, h3, ?_, ?_⟩
  · refine ⟨h4.1, fun hn => ?_⟩
    obtain ⟨b, off, e, hb, hc⟩ := h4.2 hn
    refine ⟨b, off, e, Nat.lt_of_lt_of_le hb hg.size, fun j hj => ?_⟩
    rw [← hc j hj]
    exact World.cell?_of_block (hg.block b hb (fun e2 => h5 hn _ e e2.symm))
  · intro hn ad ha
    rcases ho with rfl | rfl
    · exact h5 hn ad ha
    · obtain ⟨b, off, e, hb, hc⟩ := h4.2 hn
      rw [ha] at e
      injection e with e
      subst e
      intro e2
      injection e2 with e2
      simp at e2
      omega
theorem RowsOk.grown {w w' : World} {own own' : Option Nat} {vs : List Value} {rs : List (List UInt8)} (h : RowsOk w own vs rs) (hg : w.grownBy w' own) (ho : own' = own ∨ own' = some w.heap.size) : RowsOk w' own' vs rs :=
  ⟨h.1, fun i hi => by obtain ⟨v, h1, h2⟩ := h.2 i hi; exact ⟨v, h1, h2.grown hg ho⟩⟩
theorem RowsOk.snoc {w : World} {own : Option Nat} {vs : List Value} {rs : List (List UInt8)} {v : Value} {r : List UInt8} (h : RowsOk w own vs rs) (h2 : RowOk w own v r) : RowsOk w own (vs ++ [v]) (rs ++ [r]) := by
  refine ⟨by simp [h.1], fun i hi => ?_⟩
  rw [List.length_append, List.length_singleton] at hi
  rcases Nat.lt_or_ge i rs.length with h3 | h3
  · obtain ⟨u, h4, h5⟩ := h.2 i h3
    refine ⟨u, ?_, ?_⟩
    · rw [List.getElem?_append_left (by rw [h.1]; exact h3)]; exact h4
    · rw [List.getElem_append_left h3]; exact h5
  · obtain rfl : i = rs.length := by omega
    refine ⟨v, ?_, ?_⟩
    · rw [List.getElem?_append_right (by rw [h.1]; omega), h.1, Nat.sub_self]; rfl
    · rw [List.getElem_append_right (by omega)]; simpa using h2

/-- The call's own slice of rows of bytes. -/
def OwnR (w : World) (base : Nat) (A : Option Addr) (n c : Nat) (rs : List (List UInt8)) : Prop := ∃ vs, OwnV 22 w base A n c vs ∧ RowsOk w (Value.slice A n c).ownBlock vs rs
/-- A slice of rows of bytes that can be read. -/
def RdR (w : World) (A : Option Addr) (n : Nat) (rs : List (List UInt8)) : Prop := ∃ vs, Rd w w.heap.size 1 A n vs ∧ RowsOk w none vs rs
section
variable {w w' : World} {base n c : Nat} {A : Option Addr} {rs : List (List UInt8)}
theorem OwnR.rd (h : OwnR w base A n c rs) : RdR w A n rs := by obtain ⟨vs, h1, h2⟩ := h; exact ⟨vs, h1.rd, h2.free⟩
theorem OwnR.len (h : OwnR w base A n c rs) : rs.length = n := by obtain ⟨vs, h1, h2⟩ := h; rw [← h2.1, h1.1]
theorem RdR.len (h : RdR w A n rs) : rs.length = n := by obtain ⟨vs, h1, h2⟩ := h; rw [← h2.1, h1.len1]
theorem OwnR.below (h : OwnR w base A n c rs) (hb : Below w.heap.size w w') : OwnR w' base A n c rs := by obtain ⟨vs, h1, h2⟩ := h; exact ⟨vs, h1.below hb, h2.below hb⟩
theorem RdR.below (h : RdR w A n rs) (hb : Below w.heap.size w w') : RdR w' A n rs := by obtain ⟨vs, h1, h2⟩ := h; exact ⟨vs, h1.below' hb, h2.below hb⟩
theorem OwnR.nil_ (w : World) (base : Nat) : OwnR w base none 0 0 [] := ⟨[], OwnV.nil_ _ w base, rfl, fun i h => absurd h (by simp)⟩
theorem OwnR.empty (w : World) (hb : base ≤ w.heap.size) : OwnR (w.alloc (.cells #[] 22)) base (some ⟨w.heap.size, 0, none⟩) 0 0 [] := ⟨[], OwnV.empty _ w hb, rfl, fun i h => absurd h (by simp)⟩
theorem OwnR.lt (h : OwnR w base A n c rs) : ∀ k, (Value.slice A n c).ownBlock = some k → base ≤ k ∧ k < w.heap.size := by obtain ⟨vs, h1, h2⟩ := h; exact h1.lt
end

/-- append(rows, x), the new row laid in a row of its own ahead of it. -/
theorem wpList_appR {ops : Array Oper} {rest : List Oper} {o : Oper} {a : Act} {Q : Exit → Act → World → Prop} (w : World) (hgd : o.guard = none) (s x : Operand)
    (ho : o.op = .call { callee := .builtin .append, args := #[s, x], argTypes := #[47, 47] })
    (base : Nat) (A : Option Addr) (n c : Nat) (rs : List (List UInt8)) (hs : a.eval s = .slice A n c) (hown : OwnR w base A n c rs)
    (v : Value) (r : List UInt8) (hx : a.eval x = .slice (some ⟨w.heap.size, 0, none⟩) 1 1) (hv : RowOk w (Value.slice A n c).ownBlock v r)
    (hsz : n ≤ 1000000000000) (hbase : base ≤ w.heap.size)
    (h : ∀ A' c' w', OwnR w' base A' (n + 1) c' (rs ++ [r]) → (w.alloc (.cells #[v] 22)).grownBy w' (Value.slice A n c).ownBlock → wpList Try.prog ops Q rest (a.put o.dst (.slice A' (n + 1) c')) w') : wpList Try.prog ops Q (o :: rest) a (w.alloc (.cells #[v] 22)) := by
  obtain ⟨vs, h1, h2⟩ := hown
  have hb0 : Below w.heap.size w (w.alloc (.cells #[v] 22)) := (Below.refl _ _).alloc (Nat.le_refl _) _
  refine wpList_plain hgd fun _ hK => wp_appV 47 22 _ 24 Try.underlying47 Try.infoBytes rfl _ s x ho base A n c vs hs (h1.alloc _) ⟨w.heap.size, 0, none⟩ 1 1 [v] hx (Rd.oneV w v _) ?_ (by omega) (by unfold maxLen; omega) (by simp; omega) fun A' c' w' h3 h4 h5 => hK _ _ (h A' c' w' ?_ h4)
  · intro u hu
    rw [List.mem_singleton] at hu
    subst hu
    obtain ⟨_, _, _, rfl, _⟩ := hv
    rfl
  · exact ⟨vs ++ [v], h3, ((h2.below hb0).snoc (hv.below hb0)).grown h4 h5⟩
end Go.Proofs.Ytkihdgkcdnepbaa
