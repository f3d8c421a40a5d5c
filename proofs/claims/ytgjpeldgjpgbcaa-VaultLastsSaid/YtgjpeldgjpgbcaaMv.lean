/- A box comes to stand under another ticket. No conditions. -/
import Derived.Test.YtgjpeldgjpgbcaaMb
namespace Go.Proofs.Ytgjpeldgjpgbcaa
set_option linter.unusedSimpArgs false
set_option linter.unusedVariables false
open Go.RowKit

/-- Pointers to the box gj of ticket j become pointers to g' of ticket i. -/
def mvA (j gj i g' : Nat) : AV → AV
  | .bx k g o => if k = j ∧ g = gj then .bx i g' o else .bx k g o
  | x => x
def mvC (j gj i g' : Nat) : TC → TC
  | .box ty cs => .box ty (cs.map (mvA j gj i g'))
  | c => c
section
variable {F : Nat → Prop} {ρ : Loc} {st st' : List TK} {w0 : Bs} {w : World} {i j gj g' : Nat}
/-- st' is st, with the box of ticket j under ticket i. -/
structure MvS (st st' : List TK) (i j gj g' : Nat) : Prop where
  ne : i ≠ j
  hj : ∃ ty cs, st[j]? = some ⟨gj, .box ty cs⟩ ∧ st'[i]? = some ⟨g', .box ty (cs.map (mvA j gj i g'))⟩
  hi : ∃ gi ty cs, st[i]? = some ⟨gi, .box ty cs⟩ ∧ gi < g'
  off : st'[j]? = some ⟨gj, .off⟩
  rest : ∀ k, k ≠ i → k ≠ j → st'[k]? = (st[k]?).map fun tk => ⟨tk.g, mvC j gj i g' tk.c⟩
theorem mvC_blk {c : TC} {k b : Nat} : foot ρ k (mvC j gj i g' c) b ↔ foot ρ k c b := by cases c <;> rfl
theorem mvC_box {c : TC} {ty : TypeId} {cs : List AV} (h : mvC j gj i g' c = .box ty cs) : ∃ cs0, c = .box ty cs0 ∧ cs = cs0.map (mvA j gj i g') := by
  cases c <;> simp [mvC] at h
  obtain ⟨rfl, rfl⟩ := h
  exact ⟨_, rfl, rfl⟩
theorem mvC_own {c : TC} {el sz : Nat} {xs : List (List AV)} (h : mvC j gj i g' c = .own el sz xs) : c = .own el sz xs := by cases c <;> simp [mvC] at h ⊢; exact h
theorem mvC_obj {c : TC} {p : OP} (h : mvC j gj i g' c = .obj p) : c = .obj p := by cases c <;> simp [mvC] at h ⊢; exact h
def mvL (ρ : Loc) (i j : Nat) : Loc := fun k => if k = i then ρ j else ρ k
theorem MvS.foot (m : MvS st st' i j gj g') {k : Nat} {tk : TK} {b : Nat} (hk : st'[k]? = some tk) (hf : Go.Proofs.Ytgjpeldgjpgbcaa.foot (mvL ρ i j) k tk.c b) : (k = i ∧ ∃ tk0, st[j]? = some tk0 ∧ Go.Proofs.Ytgjpeldgjpgbcaa.foot ρ j tk0.c b) ∨ (k ≠ i ∧ k ≠ j ∧ ∃ tk0, st[k]? = some tk0 ∧ Go.Proofs.Ytgjpeldgjpgbcaa.foot ρ k tk0.c b) := by
  by_cases h1 : k = i
  · subst h1
    obtain ⟨ty, cs, h2, h3⟩ := m.hj
    rw [h3] at hk
    injection hk with hk
    subst hk
    have hf' : (mvL ρ k j k).1 = b := hf
    refine .inl ⟨rfl, _, h2, ?_⟩
    show (ρ j).1 = b
    simpa [mvL] using hf'
  · by_cases h2 : k = j
    · subst h2
      rw [m.off] at hk
      injection hk with hk
      subst hk
      exact hf.elim
    · have h3 := m.rest k h1 h2
      rw [h3] at hk
      cases hs : st[k]? with
      | none => rw [hs] at hk; cases hk
      | some tk0 =>
        rw [hs] at hk
        injection hk with hk
        subst hk
        refine .inr ⟨h1, h2, tk0, rfl, ?_⟩
        exact (foot_loc (by simp [mvL, h1])).1 (mvC_blk.1 hf)
theorem MvS.free (m : MvS st st' i j gj g') {b : Nat} (h : Free F ρ st b) : Free F (mvL ρ i j) st' b := ⟨h.1, fun k tk hk hf => by
  rcases m.foot hk hf with ⟨_, tk0, a1, a2⟩ | ⟨_, _, tk0, a1, a2⟩
  · exact h.2 j tk0 a1 a2
  · exact h.2 k tk0 a1 a2⟩
theorem MvS.stale (m : MvS st st' i j gj g') {k g : Nat} (h : Stale st k g) : Stale st' k g := by
  obtain ⟨tk, h1, h2⟩ := h
  by_cases e1 : k = i
  · subst e1
    obtain ⟨ty, cs, _, h3⟩ := m.hj
    obtain ⟨gi, ty', cs', h4, h5⟩ := m.hi
    rw [h4] at h1
    injection h1 with h1
    subst h1
    rcases h2 with h2 | ⟨_, h2⟩
    · exact ⟨_, h3, .inl (Nat.lt_trans h2 h5)⟩
    · cases h2
  · by_cases e2 : k = j
    · subst e2
      obtain ⟨ty, cs, h3, _⟩ := m.hj
      rw [h3] at h1
      injection h1 with h1
      subst h1
      rcases h2 with h2 | ⟨_, h2⟩
      · exact ⟨_, m.off, .inl h2⟩
      · cases h2
    · have h3 := m.rest k e1 e2
      rw [h1] at h3
      refine ⟨_, h3, ?_⟩
      rcases h2 with h2 | ⟨h2, h4⟩
      · exact .inl h2
      · exact .inr ⟨h2, (congrArg (mvC j gj i g') h4).trans rfl⟩
theorem MvS.cell (m : MvS st st' i j gj g') {v : Value} {x : AV} (hx : okC st x = true) (h : Rep F ρ st w v x) : Rep F (mvL ρ i j) st' w v (mvA j gj i g' x) := by
  have keep : ∀ (k g : Nat) (c : TC), st[k]? = some ⟨g, c⟩ → k ≠ i → k ≠ j → st'[k]? = some ⟨g, mvC j gj i g' c⟩ ∧ mvL ρ i j k = ρ k := fun k g c hk h1 h2 => ⟨by rw [m.rest k h1 h2, hk]; rfl, by simp [mvL, h1]⟩
  obtain ⟨tj, cj, hj1, hj2⟩ := m.hj
  obtain ⟨gi, ti, ci, hi1, hi2⟩ := m.hi
  cases x with
  | sc u => cases h with | s h => exact .s (h.mono fun b _ hb => m.free hb)
  | sl xs => exact .s (h.sl_s.mono fun b _ hb => m.free hb)
  | any => exact .any v
  | ow k g =>
    show Rep F (mvL ρ i j) st' w v (.ow k g)
    cases h with
    | s h => cases h
    | ow _ _ el sz xs hk =>
      have h1 : k ≠ i := fun e => by subst e; rw [hi1] at hk; injection hk with hk; injection hk with _ hk; cases hk
      have h2 : k ≠ j := fun e => by subst e; rw [hj1] at hk; injection hk with hk; injection hk with _ hk; cases hk
      obtain ⟨a, b⟩ := keep k g _ hk h1 h2
      rw [← b]; exact .ow k g el sz xs a
    | ow0 _ _ el sz hk =>
      have h1 : k ≠ i := fun e => by subst e; rw [hi1] at hk; injection hk with hk; injection hk with _ hk; cases hk
      have h2 : k ≠ j := fun e => by subst e; rw [hj1] at hk; injection hk with hk; injection hk with _ hk; cases hk
      exact .ow0 k g el sz (keep k g _ hk h1 h2).1
    | owd _ _ _ hk => exact .owd k g _ (m.stale hk)
  | bx k g o =>
    by_cases e : k = j ∧ g = gj
    · obtain ⟨rfl, rfl⟩ := e
      have hv := h.bx_invB hj1 rfl
      rw [hv]
      have e2 : mvA k g i g' (.bx k g o) = .bx i g' o := by simp [mvA]
      rw [e2]
      have := Rep.bx (F := F) (ρ := mvL ρ i k) (w := w) i g' o tj _ hj2
      rwa [show mvL ρ i k i = ρ k by simp [mvL]] at this
    · have e2 : mvA j gj i g' (.bx k g o) = .bx k g o := by simp [mvA, e]
      rw [e2]
      obtain ⟨c, hk, hB⟩ := live_tk (p := TC.isB) hx
      have h2 : k ≠ j := fun e3 => by
        subst e3
        rw [hj1] at hk
        injection hk with hk
        injection hk with hk _
        exact e ⟨rfl, hk.symm⟩
      by_cases h1 : k = i
      · subst h1
        rw [hi1] at hk
        injection hk with hk
        injection hk with hk _
        exact .bxd k g o _ ⟨_, hj2, .inl (by show g < g'; omega)⟩
      · have hv := h.bx_invB hk hB
        obtain ⟨a, b⟩ := keep k g c hk h1 h2
        rw [hv, ← b]
        exact .ptr a rfl (by cases c <;> first | exact hB | rfl)
  | _ => simp [okC] at hx
theorem St.move (hs : St F ρ st w0 w) (m : MvS st st' i j gj g') (hcl : cleanS st = true) : St F (mvL ρ i j) st' w0 w := by
  obtain ⟨tj, cj, hj1, hj2⟩ := m.hj
  obtain ⟨gi, ti, ci, hi1, hi2⟩ := m.hi
  have back : ∀ k g c, st'[k]? = some ⟨g, c⟩ → (k = i ∧ g = g' ∧ c = .box tj (cj.map (mvA j gj i g'))) ∨ (k = j ∧ g = gj ∧ c = .off) ∨ (k ≠ i ∧ k ≠ j ∧ ∃ c0, st[k]? = some ⟨g, c0⟩ ∧ c = mvC j gj i g' c0) := fun k g c hk => by
    by_cases h1 : k = i
    · subst h1
      rw [hj2] at hk
      injection hk with hk
      injection hk with e1 e2
      exact .inl ⟨rfl, e1.symm, e2.symm⟩
    · by_cases h2 : k = j
      · subst h2
        rw [m.off] at hk
        injection hk with hk
        injection hk with e1 e2
        exact .inr (.inl ⟨rfl, e1.symm, e2.symm⟩)
      · have h3 := m.rest k h1 h2
        rw [h3] at hk
        cases hs' : st[k]? with
        | none => rw [hs'] at hk; cases hk
        | some tk0 =>
          obtain ⟨g0, c0⟩ := tk0
          rw [hs'] at hk
          injection hk with hk
          injection hk with e1 e2
          subst e1
          exact .inr (.inr ⟨h1, h2, c0, rfl, e2.symm⟩)
  have hbox : ∀ k g ty cs, st[k]? = some ⟨g, .box ty cs⟩ → ∃ vs : Array Value, w.heap[(ρ k).1]? = some (.cells vs ty (0, 0)) ∧ vs.size = (cs.map (mvA j gj i g')).length ∧ (∀ v ∈ vs, v.oneCell' = true) ∧ ∀ (q : Nat) v x, vs[q]? = some v → (cs.map (mvA j gj i g'))[q]? = some x → Rep F (mvL ρ i j) st' w v x := fun k g ty cs hk => by
    obtain ⟨vs, h1, h2, h3, h4⟩ := hs.box k g ty cs hk
    refine ⟨vs, h1, by simpa using h2, h3, fun q v x hv hx => ?_⟩
    rw [List.getElem?_map] at hx
    cases hc : cs[q]? with
    | none => rw [hc] at hx; cases hx
    | some y =>
      rw [hc] at hx
      injection hx with hx
      subst hx
      exact m.cell (clean_box hcl hk hc) (h4 q v y hv hc)
  refine ⟨hs.below, hs.fresh, fun k g ty cs hk => ?_, fun k g el sz xs hk => ?_, fun k g p hk => ?_, fun k tk b hk hf => ?_, fun k tk k' tk' b hk hf hk' hf' => ?_, fun k tk0 h => ?_⟩
  · rcases back k g _ hk with ⟨rfl, _, e⟩ | ⟨_, _, e⟩ | ⟨h1, h2, c0, h3, e⟩
    · injection e with e1 e2
      subst e1 e2
      obtain ⟨vs, a⟩ := hbox j gj _ _ hj1
      refine ⟨vs, ?_⟩
      rw [show mvL ρ k j k = ρ j by simp [mvL]]
      exact a
    · cases e
    · obtain ⟨cs0, rfl, rfl⟩ := mvC_box e.symm
      rw [show mvL ρ i j k = ρ k by simp [mvL, h1]]
      exact hbox k g ty cs0 h3
  · rcases back k g _ hk with ⟨_, _, e⟩ | ⟨_, _, e⟩ | ⟨h1, h2, c0, h3, e⟩
    · cases e
    · cases e
    · have := mvC_own e.symm
      subst this
      obtain ⟨vs, a1, a2, a3, a4, a5⟩ := hs.own k g el sz xs h3
      rw [show mvL ρ i j k = ρ k by simp [mvL, h1]]
      exact ⟨vs, a1, a2, a3, a4, fun p q cs v x a b c => (a5 p q cs v x a b c).mono fun b _ hb => m.free hb⟩
  · rcases back k g _ hk with ⟨_, _, e⟩ | ⟨_, _, e⟩ | ⟨h1, h2, c0, h3, e⟩
    · cases e
    · cases e
    · have := mvC_obj e.symm
      subst this
      have hp := hs.obj k g p h3
      have e1 : mvL ρ i j k = ρ k := by simp [mvL, h1]
      have e2 : (fun b => Go.Proofs.Ytgjpeldgjpgbcaa.foot (mvL ρ i j) k (.obj p) b) = fun b => Go.Proofs.Ytgjpeldgjpgbcaa.foot ρ k (.obj p) b := by funext b; exact propext (foot_loc e1)
      rw [e1]
      show p.rep _ w (ρ k).1 (fun b => Go.Proofs.Ytgjpeldgjpgbcaa.foot (mvL ρ i j) k (.obj p) b)
      rw [e2]
      exact p.stab hp (Nat.le_refl _) (fun b hb => ⟨hs.fresh b hb, fun q tk hq hf => by
        rcases m.foot hq hf with ⟨_, tk0, a1, a2⟩ | ⟨_, _, tk0, a1, a2⟩
        · have := (hs.ge j tk0 b a1 a2).2; omega
        · have := (hs.ge q tk0 b a1 a2).2; omega⟩) (fun b o hb ho => ⟨m.free hb, ho⟩) (fun b _ => rfl)
  · rcases m.foot hk hf with ⟨_, tk0, a1, a2⟩ | ⟨_, _, tk0, a1, a2⟩
    · exact hs.ge j tk0 b a1 a2
    · exact hs.ge k tk0 b a1 a2
  · rcases m.foot hk hf with ⟨rfl, t1, a1, a2⟩ | ⟨n1, n2, t1, a1, a2⟩
    · rcases m.foot hk' hf' with ⟨rfl, t2, b1, b2⟩ | ⟨m1, m2, t2, b1, b2⟩
      · rfl
      · exact absurd (hs.inj j t1 k' t2 b a1 a2 b1 b2).symm m2
    · rcases m.foot hk' hf' with ⟨rfl, t2, b1, b2⟩ | ⟨m1, m2, t2, b1, b2⟩
      · exact absurd (hs.inj k t1 j t2 b a1 a2 b1 b2) n2
      · exact hs.inj k t1 k' t2 b a1 a2 b1 b2
  · obtain ⟨tk, h1, h2⟩ := hs.hist k tk0 h
    by_cases e1 : k = i
    · subst e1
      rw [hi1] at h1
      injection h1 with h1
      subst h1
      exact ⟨_, hj2, h2.trans (.inr (.inl hi2))⟩
    · by_cases e2 : k = j
      · subst e2
        rw [hj1] at h1
        injection h1 with h1
        subst h1
        exact ⟨_, m.off, h2.trans (.inr (.inr (.inl ⟨rfl, rfl⟩)))⟩
      · have h3 := m.rest k e1 e2
        rw [h1] at h3
        refine ⟨_, h3, h2.trans ?_⟩
        have e3 : mvL ρ i j k = ρ k := by simp [mvL, e1]
        obtain ⟨g0, c0⟩ := tk
        rw [e3]
        cases c0 with
        | box ty cs => exact .inr (.inr (.inr ⟨rfl, rfl, rfl, rfl⟩))
        | _ => exact .inl ⟨rfl, rfl⟩
/-- A contract whose tickets are told anew behind the call. -/
theorem ACo.mv {P : Program} {f : FuncId} {args : List AV} {os : List TK} {R R' : AV → List TK → Prop} (h : ACo P f args os R) (hR : ∀ y os', R y os' → R' y os' ∨ ∃ i j gj g' os2, MvS os' os2 i j gj g' ∧ os2.length = os'.length ∧ cleanS os2 = true ∧ clo2 y = true ∧ R' y os2) : ACo P f args os R' := fun F ρ w vs h1 h2 h3 =>
  (h F ρ w vs h1 h2 h3).mono fun _ _ ⟨v, y, ρ', os', a, b, c, d, e, g, r⟩ => by
    rcases hR y os' r with r | ⟨i, j, gj, g', os2, m, hl, hc, hy, r⟩
    · exact ⟨v, y, ρ', os', a, b, c, d, e, g, r⟩
    · exact ⟨v, y, mvL ρ' i j, os2, a, b.move m d, hl.trans c, hc, clo2_ok hy, clo2_on (fun b hb => m.free hb) hy g, r⟩
end
end Go.Proofs.Ytgjpeldgjpgbcaa
