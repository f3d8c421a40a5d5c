/- Elements of own slices are read and written. No conditions. -/
import Derived.Test.YtdgcbhihmnhnaaaSh
namespace Go.Proofs.Ytdgcbhihmnhnaaa
set_option linter.unusedSimpArgs false
set_option linter.unusedVariables false
open Go.RowKit

section
variable {P : Program} {o : Oper} {t : List AV} {st : List TK} {x y : Operand} {z : AV} {zs : List AV} {F : Nat → Prop} {ρ : Loc} {w : World} {v : Value} {k g off el sz : Nat} {xs : List (List AV)}
theorem Rep.bo_inv (h : Rep F ρ st w v (.bx k g off)) (hk : st[k]? = some ⟨g, .own el sz xs⟩) : v = .pointer (some ⟨(ρ k).1, off, none⟩) := by
  cases h with
  | s h => cases h
  | bx => rfl
  | ob => rfl
  | bo => rfl
  | bxd _ _ _ _ hst =>
    obtain ⟨tk, h1, h2⟩ := hst
    rw [hk] at h1
    injection h1 with h1
    subst h1
    rcases h2 with h2 | ⟨_, h2⟩
    · exact absurd h2 (Nat.lt_irrefl _)
    · cases h2
theorem own_cur {b n c : Nat} {vs : List Value} (h : w.ownsRow 0 el sz (.slice (some ⟨b, 0, none⟩) n c) n vs) : ∃ cur, w.heap[b]? = some (.cells cur el (0, 0)) ∧ n ≤ c ∧ cur.size = c * sz ∧ cur.toList.take (n * sz) = vs ∧ vs.length = n * sz := by
  obtain ⟨hl, h⟩ := h
  rcases h with ⟨e, _⟩ | ⟨g', cap, cur, e, _, hg, hn, _, hs, ht⟩
  · cases e
  · injection e with e1 _ e3
    injection e1 with e1
    injection e1 with e1
    subst e1 e3
    exact ⟨cur, hg, hn, hs, ht, hl⟩
/-- A pointer to an element of an own slice. -/
theorem rd_iaddr_ow {T e n : Nat} {ik : IntKind} {I : Int} (ho : o.op = .indexAddr T x y) (hT : elT P T = some (e, sz)) (hx : evA t x = .ow k g) (hk : st[k]? = some ⟨g, .own el sz xs⟩) (hy : evV t y = some (.int ik I)) (hI : I = (n : Int)) (hn : n < xs.length) : ARd P o t st (.bx k g (n * sz)) := fun F ρ w0 w a hs hm => by
  subst hI
  have h := hm.ev x
  rw [hx] at h
  have hq := h.ow_inv hk
  obtain ⟨hu, inf, hi1, hi2⟩ := el_under hT
  refine ⟨.pointer (some ⟨(ρ k).1, n * sz, none⟩), .bo k g _ el sz xs hk, fun w' _ => ?_⟩
  have hnm : (n : Int) < xs.length := by omega
  simp only [execOp, ho, Instr.indexAt, hq, hm.val hy, Sem.run_bind, asIntOf, Sem.run_pure, Result.andThen_ok, run_underlying hu]
  simp [hnm, sizeOf, typeInfo, hi1, hi2, Addr.add_mid]
/-- An element's cell is read. -/
theorem rd_load_bo {ty i j : Nat} {cs : List AV} (ho : o.op = .load ty x) (hT : agN P ty = some none) (hx : evA t x = .bx k g off) (hk : st[k]? = some ⟨g, .own el sz xs⟩) (hoff : off = i * sz + j) (hi : xs[i]? = some cs) (hj : cs[j]? = some z) : ARd P o t st z := fun F ρ w0 w a hs hm => by
  have h := hm.ev x
  rw [hx] at h
  have hv := h.bo_inv hk
  obtain ⟨vs, h1, h2, h3, h4, h5⟩ := hs.own k g el sz xs hk
  obtain ⟨cur, c1, c2, c3, c4, c5⟩ := own_cur h1
  have hil := (List.getElem?_eq_some_iff.1 hi).1
  have hjl : j < sz := by have := h4 i cs hi; have := (List.getElem?_eq_some_iff.1 hj).1; omega
  have hlt : off < xs.length * sz := by
    subst hoff
    have : (i + 1) * sz ≤ xs.length * sz := Nat.mul_le_mul_right _ hil
    rw [Nat.succ_mul] at this
    omega
  have hvo : vs[off]? = some (vs[off]'(by omega)) := List.getElem?_eq_getElem (by omega)
  have hcu : cur[off]? = some (vs[off]'(by omega)) := by
    have e : cur.toList[off]? = vs[off]? := by rw [← c4, List.getElem?_take, if_pos hlt]
    rw [hvo] at e
    rwa [Array.getElem?_toList] at e
  refine ⟨_, .s (h5 i j cs _ z hi hj (by rw [← hoff]; exact hvo)), fun w' hb => ?_⟩
  have hcell : w'.cell? ⟨(ρ k).1, off, none⟩ = some (vs[off]'(by omega)) := by
    rw [hb.cell (p := ⟨(ρ k).1, off, none⟩) (Array.getElem?_eq_some_iff.1 c1).1, cell_of_row _ _ _ _ _ _ c1, hcu]
  simp only [execOp, ho, hv, Sem.run_bind, run_load1 hT hcell, Result.andThen_ok, Sem.run_pure]
/-- An element's cell is written; the slice is not looked at any more. -/
theorem op_store_bo {K : AV → List TK → Prop} {ty : TypeId} (ho : o.op = .store ty x y) (hx : evA t x = .bx k g off) (hk : st[k]? = some ⟨g, .own el sz xs⟩) (hy : evA t y = z) (hz : z.cells? = some zs) (hl : liveA st z = true) (hT : szT P ty = some zs.length) (hle : off + zs.length ≤ xs.length * sz)
    (h : K (.sc undef) (st.set k ⟨g, .off⟩)) : AOp P o t st K := fun F ρ w0 w a hs hm next Q hn => by
  have hp := hm.ev x
  rw [hx] at hp
  have hv := hp.bo_inv hk
  have hr := hm.ev y
  rw [hy] at hr
  obtain ⟨h1, h2, h3⟩ := hr.cells hz (fun k g e => live_ow (by rw [← e]; exact hl)) (fun k g o e => live_bx (by rw [← e]; exact hl))
  obtain ⟨vs, g1, g2, g3, g4, g5⟩ := hs.own k g el sz xs hk
  obtain ⟨cur, c1, c2, c3, c4, c5⟩ := own_cur g1
  obtain ⟨hs', hmv⟩ := hs.spend (w' := w.setCells (ρ k).1 off (a.eval y).cells.toList) hk (by simp) (grown_setCells _ _ w off)
  have hcs : xs.length * sz ≤ cur.size := by rw [c3]; exact Nat.mul_le_mul_right _ c2
  have hth : w.there (ρ k).1 off (a.eval y).cells.size := fun j hj => by
    have hlt : off + j < cur.size := by omega
    refine ⟨?_, ?_⟩
    · rw [cell_of_row _ _ _ _ _ _ c1, Array.getElem?_eq_getElem hlt]; rfl
    · simp [World.frozen?, c1]
  have hst : (storeVar ty ⟨(ρ k).1, off, none⟩ (a.eval y)).run P w = .ok () (w.setCells (ρ k).1 off (a.eval y).cells.toList) :=
    run_storeVar_mid w (ρ k).1 off ty (a.eval y).cells hth (by unfold szT at hT; rw [hT, h1]) (by rw [Array.all_eq_true_iff_forall_mem]; exact h2)
  have hrun : (execOp a.eval o).run P w = .ok .skip (w.setCells (ρ k).1 off (a.eval y).cells.toList) := by
    simp only [execOp, ho, hv, Instr.storeAt, Instr.sureAddr, Sem.run_bind, Sem.run_pure, Result.andThen_ok, hst]
  unfold Oper.wp
  rw [hrun]
  exact hn undef _ ρ _ _ hs' hmv (.sc _) h
end
end Go.Proofs.Ytdgcbhihmnhnaaa
