/- A box that is only read from now on becomes free memory; whole elements of own slices are read. No conditions. -/
import Derived.Test.YtdgcbhihmnhnaaaOwS
namespace Go.Proofs.Ytdgcbhihmnhnaaa
set_option linter.unusedSimpArgs false
set_option linter.unusedVariables false
set_option maxRecDepth 100000
open Go.RowKit

/-- A box that is only read from now on is free memory. -/
def flB : AV → Bool
  | .sc _ => true
  | .sl _ => true
  | _ => false
theorem Rep.flB_s {F : Nat → Prop} {ρ : Loc} {st : List TK} {w : World} {v : Value} {x : AV} (hx : flB x = true) (h : Rep F ρ st w v x) : RepS (Free F ρ st) w v x := by
  cases h with
  | s h => exact h
  | _ => cases hx
theorem St.freebox {F : Nat → Prop} {ρ : Loc} {st : List TK} {w0 : Bs} {w : World} (hs : St F ρ st w0 w) {k g ty : Nat} {cs : List AV} (hk : st[k]? = some ⟨g, .box ty cs⟩) (h0 : 0 < cs.length) (hc : cs.all flB = true) : St F ρ (st.set k ⟨g, .off⟩) w0 w ∧ Mv F ρ st w ρ (st.set k ⟨g, .off⟩) w ∧ ∀ v off, Rep F ρ st w v (.bx k g off) → Rep F ρ (st.set k ⟨g, .off⟩) w v (.ep cs off) := by
  have hklt := (List.getElem?_eq_some_iff.1 hk).1
  have hmv : Mv F ρ st w ρ (st.set k ⟨g, .off⟩) w := Mv.upd hk (fun _ _ => rfl) (fun b o hf ho => ⟨fun h => h, ho⟩) (.inr (.inr (.inl ⟨rfl, rfl⟩)))
  have hfr : ∀ b, Free F ρ st b → Free F ρ (st.set k ⟨g, .off⟩) b := fun b hf => ⟨hf.1, fun j q hq hb => by
    rcases get_set hklt hq with ⟨rfl, rfl⟩ | ⟨_, h'⟩
    · exact hb
    · exact hf.2 j q h' hb⟩
  refine ⟨hs.upd hk (fun _ _ => rfl) hs.below (Nat.le_refl _) hmv (fun _ _ _ _ _ _ => rfl) (fun b hf => hf.elim) (fun j q b hj hq hf hf' => hf') (fun ty cs e => by cases e) (fun el' sz' xs' e => by cases e) (fun p e => by cases e), hmv, fun v off hr => ?_⟩; rw [hr.bx_inv hk]; obtain ⟨vs, h1, h2, h3, h4⟩ := hs.box k g ty cs hk
  have hge := hs.geB k _ hk (by simp)
  have hcell : ∀ j (hj : j < cs.length), w.cell? ⟨(ρ k).1, 0 + j, none⟩ = some (vs[j]'(by omega)) := fun j hj => by
    rw [Nat.zero_add, cell_of_row _ _ _ _ _ _ h1, Array.getElem?_eq_getElem]
  have := Rep.ep (F := F) (ρ := ρ) (st := st.set k ⟨g, .off⟩) (w := w) (ρ k).1 0 off cs (fun j => vs.getD j (.bool false)) h0 ⟨hge.1.2, fun j tk hj hb => by
      rcases get_set hklt hj with ⟨rfl, rfl⟩ | ⟨hne, hj'⟩
      · exact hb
      · exact hne (hs.inj j tk k _ _ hj' hb hk rfl)⟩ (fun j hj => by rw [hcell j hj]; simp [Array.getD, show j < vs.size by omega]) (fun j => by
      by_cases hj : j < vs.size
      · simp only [Array.getD, hj, dif_pos]; exact h3 _ (Array.getElem_mem hj)
      · simp only [Array.getD, hj, dif_neg, not_false_iff]; rfl) (fun j x hx => by
      have hj := (List.getElem?_eq_some_iff.1 hx).1
      have hfx : flB x = true := List.all_eq_true.1 hc x (List.mem_of_getElem? hx)
      have := (h4 j (vs[j]'(by omega)) x (Array.getElem?_eq_getElem (by omega)) hx).flB_s hfx
      rw [show vs.getD j (.bool false) = vs[j]'(by omega) by simp [Array.getD, show j < vs.size by omega]]
      exact this.mono fun b _ hb => hfr b hb)
  rw [Nat.zero_add] at this
  exact this
theorem AW.freebox {P : Program} {c : Code} {Q : APost} {t : List AV} {st : List TK} (d : Nat) {k g off ty : Nat} {cs : List AV} (hd : t[d]? = some (.bx k g off)) (hk : st[k]? = some ⟨g, .box ty cs⟩) (h0 : 0 < cs.length) (hc : cs.all flB = true) (h : AW P c Q (t.set d (.ep cs off)) (st.set k ⟨g, .off⟩)) : AW P c Q t st := fun F ρ w0 w a hs hm => by
  obtain ⟨h1, h2, h3⟩ := hs.freebox hk h0 hc
  refine h F ρ w0 w a h1 ?_
  have hm' := hm.mv h2
  refine ⟨hm'.defers, by simp [hm'.size], fun i v x hv hx => ?_⟩; rw [List.getElem?_set] at hx
  split at hx
  · rename_i e
    subst e
    split at hx
    · injection hx with hx
      subst hx
      exact h3 v off (hm.rep _ v _ hv hd)
    · cases hx
  · exact hm'.rep i v x hv hx
section
variable {P : Program} {o : Oper} {t : List AV} {st : List TK} {x y : Operand} {zs : List AV} {k g off el sz : Nat} {xs : List (List AV)}
/-- A whole element of an own slice is read. -/
theorem rd_loadN_bo {ty n : Nat} (i : Nat) (ho : o.op = .load ty x) (hT : agN P ty = some (some n)) (hx : evA t x = .bx k g off) (hk : st[k]? = some ⟨g, .own el sz xs⟩) (hoff : off = i * sz) (hn : n = sz) (hi : xs[i]? = some zs) : ARd P o t st (.ag zs) := fun F ρ w0 w a hs hm => by
  subst hn
  have h := hm.ev x
  rw [hx] at h
  have hv := h.bo_inv hk
  obtain ⟨vs, h1, h2, h3, h4, h5⟩ := hs.own k g el n xs hk
  obtain ⟨cur, c1, c2, c3, c4, c5⟩ := own_cur h1
  have hil := (List.getElem?_eq_some_iff.1 hi).1
  have hzl : zs.length = n := h4 i zs hi
  have hle : off + n ≤ xs.length * n := by
    subst hoff
    have : (i + 1) * n ≤ xs.length * n := Nat.mul_le_mul_right _ hil
    rw [Nat.succ_mul] at this
    omega
  have hvs : ∀ j, j < n → ∃ v, vs[off + j]? = some v ∧ cur[off + j]? = some v := fun j hj => by
    refine ⟨vs[off + j]'(by omega), List.getElem?_eq_getElem (by omega), ?_⟩
    have e : cur.toList[off + j]? = vs[off + j]? := by rw [← c4, List.getElem?_take, if_pos (by omega)]
    rw [List.getElem?_eq_getElem (show off + j < vs.length by omega)] at e
    rwa [Array.getElem?_toList] at e
  refine ⟨.agg ((vs.drop off).take n).toArray, .s (.ag _ _ ?_ ?_ ?_), fun w' hb => ?_⟩
  · simp; omega
  · intro v hv'
    have : v ∈ vs := List.mem_of_mem_drop (List.mem_of_mem_take (by simpa using hv'))
    exact h3 v this
  · intro j v x' hv' hx'; simp only [List.getElem?_toArray, List.getElem?_take, List.getElem?_drop] at hv'
    split at hv'
    · rename_i hj
      exact h5 i j zs v x' hi hx' (by rw [← hoff]; exact hv')
    · cases hv'
  · have := run_loadN (P := P) hT (b := (ρ k).1) (o := off) (w := w') (cs := (vs.drop off).take n) (by simp; omega) (fun j v hv' => by
      rw [hb.cell (p := ⟨(ρ k).1, off + j, none⟩) (Array.getElem?_eq_some_iff.1 c1).1, cell_of_row _ _ _ _ _ _ c1]
      simp only [List.getElem?_take, List.getElem?_drop] at hv'
      split at hv'
      · rename_i hj
        obtain ⟨u, u1, u2⟩ := hvs j hj
        rw [u2, ← u1]
        exact hv'
      · cases hv')
    simp only [execOp, ho, hv, Sem.run_bind, this, Result.andThen_ok, Sem.run_pure]
end
/-- The ticket's own slice is there, as it has elements. -/
theorem owM_pos {b : Bool} {el sz : Nat} {xs : List (List AV)} (h : 0 < xs.length) : owM b el sz xs = .own el sz xs := by
  cases xs with
  | nil => cases h
  | cons x xs => rfl
theorem rd_iaddr_owM {P : Program} {o : Oper} {t : List AV} {st : List TK} {x y : Operand} {k g sz el T e n : Nat} {b : Bool} {xs : List (List AV)} {ik : IntKind} {I : Int} (ho : o.op = .indexAddr T x y) (hT : elT P T = some (e, sz)) (hx : evA t x = .ow k g) (hk : st[k]? = some ⟨g, owM b el sz xs⟩) (hy : evV t y = some (.int ik I)) (hI : I = (n : Int)) (hn : n < xs.length) : ARd P o t st (.bx k g (n * sz)) :=
  rd_iaddr_ow ho hT hx (by rw [hk, owM_pos (by omega)]) hy hI hn
theorem rd_loadN_boM {P : Program} {o : Oper} {t : List AV} {st : List TK} {x : Operand} {zs : List AV} {k g off el sz ty n : Nat} {b : Bool} {xs : List (List AV)} (i : Nat) (ho : o.op = .load ty x) (hT : agN P ty = some (some n)) (hx : evA t x = .bx k g off) (hk : st[k]? = some ⟨g, owM b el sz xs⟩) (hoff : off = i * sz) (hn : n = sz) (hi : xs[i]? = some zs) : ARd P o t st (.ag zs) :=
  rd_loadN_bo i ho hT hx (by rw [hk, owM_pos (by have := (List.getElem?_eq_some_iff.1 hi).1; omega)]) hoff hn hi
end Go.Proofs.Ytdgcbhihmnhnaaa
