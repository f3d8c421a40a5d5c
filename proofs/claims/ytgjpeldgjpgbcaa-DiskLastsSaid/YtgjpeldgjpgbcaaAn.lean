/- Objects: tickets that hang together, told as one. No conditions. -/
import Derived.Test.YtgjpeldgjpgbcaaAm
namespace Go.Proofs.Ytgjpeldgjpgbcaa
set_option linter.unusedSimpArgs false
set_option linter.unusedVariables false
open Go.RowKit

theorem code_of (n : Nat) (S : Nat → Prop) (h : ∀ b, S b → b < n) : ∃ c : Nat, ∀ b, c.testBit b = true ↔ S b := by
  classical
  induction n generalizing S with
  | zero => exact ⟨0, fun b => ⟨fun hb => by simp at hb, fun hb => absurd (h b hb) (by omega)⟩⟩
  | succ n ih =>
    obtain ⟨c, hc⟩ := ih (fun b => S b ∧ b ≠ n) (fun b hb => by have := h b hb.1; omega)
    by_cases hn : S n
    · refine ⟨c ||| 2 ^ n, fun b => ?_⟩
      rw [Nat.testBit_or, Bool.or_eq_true, hc, Nat.testBit_two_pow, decide_eq_true_eq]
      constructor
      · rintro (h1 | rfl)
        · exact h1.1
        · exact hn
      · intro hb
        by_cases e : b = n
        · exact .inr e.symm
        · exact .inl ⟨hb, e⟩
    · refine ⟨c, fun b => ?_⟩
      rw [hc]
      exact ⟨fun h1 => h1.1, fun hb => ⟨hb, fun e => hn (e ▸ hb)⟩⟩
theorem Rep.mvF {F F' : Nat → Prop} {ρ : Loc} {st : List TK} {w w' : World} {v : Value} {x : AV} (h : Rep F ρ st w v x) (m : ∀ b o, Free F ρ st b → w.heap[b]? = some o → Free F' ρ st b ∧ w'.heap[b]? = some o) : Rep F' ρ st w' v x := by
  induction h with
  | any v => exact .any v
  | s h => exact .s (h.mv m)
  | ow k g el sz xs h => exact .ow k g el sz xs h
  | ow0 k g el sz h => exact .ow0 k g el sz h
  | owd k g v h => exact .owd k g v h
  | bx k g off ty cs h => exact .bx k g off ty cs h
  | ob k g off p h => exact .ob k g off p h
  | bxd k g off v h => exact .bxd k g off v h
  | ep b base off cs V h0 hf hv h1 hr =>
    obtain ⟨o, ho⟩ := blk_of_cell (hv 0 h0)
    obtain ⟨h2, h3⟩ := m b o hf ho
    exact .ep b base off cs V h0 h2 (fun j hj => cell_same (hv j hj) ho h3) h1 fun j x hx => (hr j x hx).mv m
  | ag vs cs hs h1 hr ih => exact .ag vs cs hs h1 ih
  | tu vs cs hs hr ih => exact .tu vs cs hs ih
/-- All blocks of tickets. -/
def footS (ρ : Loc) (os : List TK) (b : Nat) : Prop := ∃ k tk, os[k]? = some tk ∧ foot ρ k tk.c b
def CluR (os : List TK) (F : Nat → Prop) (w : World) (r : Nat) (ft : Nat → Prop) : Prop :=
  ∃ ρ : Loc, St (fun b => F b ∨ ft b) ρ os ⟨w, ρ, os⟩ w ∧ (ρ 0).1 = r ∧ cleanS os = true ∧ ∀ b, ft b ↔ footS ρ os b
theorem CluR.stab {os : List TK} {F F' : Nat → Prop} {w w' : World} {r : Nat} {ft : Nat → Prop} (h : CluR os F w r ft) (hsz : w.heap.size ≤ w'.heap.size) (hfr : ∀ b, w'.heap.size ≤ b → F' b) (hF : ∀ b o, F b → w.heap[b]? = some o → F' b ∧ w'.heap[b]? = some o) (hft : ∀ b, ft b → w'.heap[b]? = w.heap[b]?) : CluR os F' w' r ft := by
  obtain ⟨ρ, hs, hr, hc, hf⟩ := h
  have free : ∀ b o, Free (fun b => F b ∨ ft b) ρ os b → w.heap[b]? = some o → Free (fun b => F' b ∨ ft b) ρ os b ∧ w'.heap[b]? = some o := fun b o ⟨h1, h2⟩ ho => by
    have hn : ¬ ft b := fun e => by obtain ⟨k, tk, a1, a2⟩ := (hf b).1 e; exact h2 k tk a1 a2
    obtain ⟨h3, h4⟩ := hF b o (h1.resolve_right hn) ho
    exact ⟨⟨.inl h3, h2⟩, h4⟩
  have same : ∀ k tk b, os[k]? = some tk → foot ρ k tk.c b → w'.heap[b]? = w.heap[b]? := fun k tk b h1 h2 => hft b ((hf b).2 ⟨k, tk, h1, h2⟩)
  refine ⟨ρ, ⟨Bel.refl ⟨w', ρ, os⟩, fun b hb => .inl (hfr b hb), fun k g ty cs hk => ?_, fun k g el sz xs hk => ?_, fun k g p hk => ?_, fun k tk b hk hb => ?_, hs.inj, fun k tk0 h => ⟨tk0, h, .inl ⟨rfl, rfl⟩⟩⟩, hr, hc, hf⟩
  · obtain ⟨vs, h1, h2, h3, h4⟩ := hs.box k g ty cs hk
    exact ⟨vs, (same k _ _ hk rfl).trans h1, h2, h3, fun j v x hv hx => (h4 j v x hv hx).mvF free⟩
  · obtain ⟨vs, h1, h2, h3, h4, h5⟩ := hs.own k g el sz xs hk
    exact ⟨vs, own_keep' h1 fun g' hg => by injection hg with hg; subst hg; exact same k _ _ hk rfl, h2, h3, h4, fun i j cs v x a b c => (h5 i j cs v x a b c).mv free⟩
  · exact p.stab (hs.obj k g p hk) hsz (fun b hb => ⟨.inl (hfr b hb), fun j tk hj hf' => by have := (hs.ge j tk b hj hf').2; omega⟩) free (fun b hb => same k _ b hk hb)
  · exact ⟨⟨.inr ⟨k, tk, hk, hb⟩, .inr ((hf b).2 ⟨k, tk, hk, hb⟩)⟩, Nat.lt_of_lt_of_le (hs.ge k tk b hk hb).2 hsz⟩
/-- The object of tickets as D says. -/
def CluP (D : List TK → Prop) : OP := ⟨fun F w r ft => ∃ os, D os ∧ CluR os F w r ft, fun ⟨os, hD, h⟩ h1 h2 h3 h4 => ⟨os, hD, h.stab h1 h2 h3 h4⟩⟩

/-- Data without tickets. -/
def clo0 : AV → Bool
  | .sc _ => true
  | .sl _ => true
  | _ => false
def clo1 : AV → Bool
  | .ag cs => cs.all clo0
  | x => clo0 x
def clo2 : AV → Bool
  | .tu vs => vs.all clo1
  | x => clo1 x
section
variable {F F' : Nat → Prop} {ρ ρ' : Loc} {st st' os : List TK} {w : World} {v : Value} {x : AV}
theorem clo0_on (hf : ∀ b, Free F ρ st b → Free F' ρ' st' b) (hx : clo0 x = true) (h : Rep F ρ st w v x) : Rep F' ρ' st' w v x := by
  cases x with
  | sc u => cases h with | s h => exact .s (h.mono fun b _ hb => hf b hb)
  | sl xs => exact .s (h.sl_s.mono fun b _ hb => hf b hb)
  | _ => simp [clo0] at hx
theorem clo1_on (hf : ∀ b, Free F ρ st b → Free F' ρ' st' b) (hx : clo1 x = true) (h : Rep F ρ st w v x) : Rep F' ρ' st' w v x := by
  cases x with
  | ag cs =>
    obtain ⟨vs, rfl, h1, h2, h3⟩ := h.ag_inv
    have hx' : ∀ y ∈ cs, clo0 y = true := by simpa [clo1] using hx
    exact .ag vs cs h1 h2 fun j v y hv hy => clo0_on hf (hx' y (List.mem_of_getElem? hy)) (h3 j v y hv hy)
  | _ => exact clo0_on hf hx h
theorem clo2_on (hf : ∀ b, Free F ρ st b → Free F' ρ' st' b) (hx : clo2 x = true) (h : Rep F ρ st w v x) : Rep F' ρ' st' w v x := by
  cases x with
  | tu cs =>
    obtain ⟨vs, rfl, h1, h3⟩ := h.tu_inv
    have hx' : ∀ y ∈ cs, clo1 y = true := by simpa [clo2] using hx
    exact .tu vs cs h1 fun j v y hv hy => clo1_on hf (hx' y (List.mem_of_getElem? hy)) (h3 j v y hv hy)
  | _ => exact clo1_on hf hx h
theorem clo0_ok (hx : clo0 x = true) : okC os x = true := by cases x <;> simp_all [clo0, okC]
theorem clo1_ok (hx : clo1 x = true) : ok1 os x = true := by
  cases x with
  | ag cs => simp only [clo1, ok1, List.all_eq_true] at *; exact fun y hy => clo0_ok (hx y hy)
  | _ => simp_all [clo1, ok1, clo0, okC]
theorem clo2_ok (hx : clo2 x = true) : ok2 os x = true := by
  cases x with
  | tu cs => simp only [clo2, ok2, List.all_eq_true] at *; exact fun y hy => clo1_ok (hx y hy)
  | ag cs => exact clo1_ok (x := .ag cs) hx
  | _ => simp_all [clo2, ok2, clo1, ok1, clo0, okC]

/-- One object alone: what may be read beside it, and it. -/
theorem one_F {G : Nat} {p : OP} {w0 : Bs} (hs : ∀ b, foot ρ 0 (.obj p) b → F b) : (fun b => Free F ρ [⟨G, .obj p⟩] b ∨ foot ρ 0 (.obj p) b) = F := by
  funext b
  apply propext
  constructor
  · rintro (h | h)
    · exact h.1
    · exact hs b h
  · intro h
    by_cases e : foot ρ 0 (.obj p) b
    · exact .inr e
    · refine .inl ⟨h, fun k tk hk hf => ?_⟩
      cases k with
      | zero => simp at hk; subst hk; exact e hf
      | succ k => simp at hk
end
/-- The store of one object, made of the tickets os. -/
theorem one_obj {F : Nat → Prop} {ρ1 ρ2 : Loc} {os os' : List TK} {w w' : World} {G : Nat} {W : Bs} {D : List TK → Prop} (hW : W.w = w) (hM : ∀ b, (⟨w, ρ1, os⟩ : Bs).M b → W.M b) (hs : St F ρ2 os' ⟨w, ρ1, os⟩ w') (hc : cleanS os' = true) (hD : D os') (hh : ∀ c : Nat, ∀ (k : Nat) (tk0 : TK), W.os[k]? = some tk0 → ∃ tk, [TK.mk G (.obj (CluP D))][k]? = some tk ∧ TkR tk0 (W.ρ k) tk ((ρ2 0).1, c)) :
    ∃ ρ3 : Loc, (ρ3 0).1 = (ρ2 0).1 ∧ St F ρ3 [⟨G, .obj (CluP D)⟩] W w' ∧ ∀ b, Free F ρ2 os' b → Free F ρ3 [⟨G, .obj (CluP D)⟩] b := by
  obtain ⟨c, hcode⟩ := code_of w'.heap.size (footS ρ2 os') (fun b ⟨k, tk, h1, h2⟩ => (hs.ge k tk b h1 h2).2)
  have hfo : ∀ b, foot (fun _ => ((ρ2 0).1, c)) 0 (.obj (CluP D)) b ↔ footS ρ2 os' b := hcode
  have hF : ∀ b, foot (fun _ => ((ρ2 0).1, c)) 0 (.obj (CluP D)) b → F b := fun b hb => by
    obtain ⟨k, tk, h1, h2⟩ := (hfo b).1 hb
    exact (hs.ge k tk b h1 h2).1.2
  refine ⟨fun _ => ((ρ2 0).1, c), rfl, ⟨?_, hs.fresh, fun k g ty cs hk => ?_, fun k g el sz xs hk => ?_, fun k g p hk => ?_, fun k tk b hk hb => ?_, fun k tk k' tk' b hk hb hk' hb' => ?_, hh c⟩, fun b hb => ⟨hb.1, fun k tk hk hf => ?_⟩⟩
  · refine ⟨?_, ?_, ?_, ?_, fun b hb hM' => ?_⟩
    · rw [hW]; exact hs.below.os
    · rw [hW]; exact hs.below.tape
    · rw [hW]; exact hs.below.output
    · rw [hW]; exact hs.below.size
    · rw [hW] at hb ⊢
      exact hs.below.block b hb fun h => hM' (hM b h)
  · cases k with
    | zero => simp at hk
    | succ k => simp at hk
  · cases k with
    | zero => simp at hk
    | succ k => simp at hk
  · cases k with
    | zero =>
      simp at hk
      obtain ⟨rfl, rfl⟩ := hk
      refine ⟨os', hD, ρ2, ?_, rfl, hc, hfo⟩
      rw [one_F (w0 := W) hF]
      exact hs.self
    | succ k => simp at hk
  · cases k with
    | zero =>
      simp at hk
      subst hk
      obtain ⟨j, tk, h1, h2⟩ := (hfo b).1 hb
      have h3 := hs.ge j tk b h1 h2
      refine ⟨⟨?_, h3.1.2⟩, h3.2⟩
      rw [hW]
      exact h3.1.1.imp id (hM b)
    | succ k => simp at hk
  · cases k with
    | zero =>
      cases k' with
      | zero => rfl
      | succ k' => simp at hk'
    | succ k => simp at hk
  · cases k with
    | zero =>
      simp at hk
      subst hk
      obtain ⟨j, tk, h1, h2⟩ := (hfo b).1 hf
      exact hb.2 j tk h1 h2
    | succ k => simp at hk

section
variable {P : Program} {f : FuncId}
/-- A method of an object. -/
theorem ACo.obj {rest : List AV} {D : List TK → Prop} {G : Nat} {R : AV → List TK → Prop} (hrest : rest.all clo1 = true)
    (hC : ∀ os, D os → ∃ g c0 R0, os[0]? = some ⟨g, c0⟩ ∧ c0.isB = true ∧ ACo P f (.bx 0 g 0 :: rest) os R0 ∧ ∀ y os', R0 y os' → ∃ D' c1, clo2 y = true ∧ D' os' ∧ os'[0]? = some ⟨g, c1⟩ ∧ c1.isB = true ∧ R y [⟨G, .obj (CluP D')⟩]) : ACo P f (.bx 0 G 0 :: rest) [⟨G, .obj (CluP D)⟩] R := fun F ρ w vs hsz hs hr => by
  obtain ⟨os, hD, ρ1, hs1, hroot, hcl, hft⟩ := hs.obj 0 G (CluP D) rfl
  have hFF : ∀ b, foot ρ 0 (.obj (CluP D)) b → F b := fun b hb => (hs.ge 0 _ b rfl hb).1.2
  rw [one_F (w0 := ⟨w, ρ, []⟩) hFF] at hs1
  obtain ⟨g, c0, R0, h0, hB, hC', hR⟩ := hC os hD
  have hfree : ∀ b, Free F ρ [⟨G, .obj (CluP D)⟩] b → Free F ρ1 os b := fun b hb => ⟨hb.1, fun k tk hk hf => hb.2 0 _ rfl ((hft b).2 ⟨k, tk, hk, hf⟩)⟩
  refine (hC' F ρ1 w vs (by simpa using hsz) hs1 (fun j v x hv hx => ?_)).mono fun e w' ⟨v, y, ρ2, os', he, hs2, hl, hcl', hok, hrep, hR0⟩ => ?_
  · cases j with
    | zero =>
      simp at hx
      subst hx
      rw [(hr 0 v (.bx 0 G 0) hv rfl).bx_invB (c := .obj (CluP D)) rfl rfl, ← hroot]
      exact .ptr h0 rfl hB
    | succ j =>
      have hx' : rest[j]? = some x := by simpa using hx
      have hc : clo1 x = true := by rw [List.all_eq_true] at hrest; exact hrest x (List.mem_of_getElem? hx')
      exact clo1_on hfree hc (hr (j + 1) v x hv (by simpa using hx'))
  · obtain ⟨D', c1, hy, hD', h0', hB', hRR⟩ := hR y os' hR0
    have hroot2 : (ρ2 0).1 = (ρ1 0).1 := by
      obtain ⟨tk, a1, a2⟩ := hs2.hist 0 _ h0
      rw [h0'] at a1
      injection a1 with a1
      subst a1
      rcases a2 with ⟨_, a2⟩ | a2 | ⟨_, a2⟩ | ⟨_, a2, _⟩
      · exact congrArg Prod.fst a2
      · exact absurd a2 (Nat.lt_irrefl _)
      · simp only at a2; subst a2; cases hB'
      · exact a2
    obtain ⟨ρ3, e3, hs3, hf3⟩ := one_obj (G := G) (W := ⟨w, ρ, [⟨G, .obj (CluP D)⟩]⟩) (D := D') rfl (fun b ⟨k, tk, h1, h2⟩ => ⟨0, _, rfl, (hft b).2 ⟨k, tk, h1, h2⟩⟩) hs2 hcl' hD' (fun c k tk0 hk => by
      cases k with
      | zero =>
        simp at hk
        subst hk
        exact ⟨_, rfl, .inr (.inr (.inr ⟨rfl, by show (ρ2 0).1 = (ρ 0).1; rw [hroot2, hroot], rfl, rfl⟩))⟩
      | succ k => simp at hk)
    exact ⟨v, y, ρ3, _, he, hs3, rfl, rfl, clo2_ok hy, clo2_on hf3 hy hrep, hRR⟩
/-- A function that makes an object: the first of its results, the others data. -/
theorem ACo.newObj {args : List AV} {offs : List TK} {h h' : Nat} {R : AV → List TK → Prop} (hargs : args.all clo1 = true) (hoff : ∀ tk ∈ offs, tk.c = .off) {R0 : AV → List TK → Prop} (hC : ACo P f args offs R0)
    (hR : ∀ y os', R0 y os' → ∃ D' g c1 rest, y = .tu (.bx 0 g 0 :: rest) ∧ rest.all clo1 = true ∧ D' os' ∧ os'[0]? = some ⟨g, c1⟩ ∧ c1.isB = true ∧ R (.tu (.bx 0 (h + 1) 0 :: rest)) [⟨h + 1, .obj (CluP D')⟩]) : ACo P f args [⟨h, .off⟩] R := fun F ρ w vs hsz hs hr => by
  have hno : ∀ (ρ : Loc) k tk b, offs[k]? = some tk → ¬ foot ρ k tk.c b := fun ρ k tk b hk hf => by rw [hoff tk (List.mem_of_getElem? hk)] at hf; exact hf
  have hs1 : St F ρ offs ⟨w, ρ, offs⟩ w := ⟨Bel.refl ⟨w, ρ, offs⟩, hs.fresh, fun k g ty cs hk => (by have := hoff _ (List.mem_of_getElem? hk); cases this), fun k g el sz xs hk => (by have := hoff _ (List.mem_of_getElem? hk); cases this), fun k g p hk => (by have := hoff _ (List.mem_of_getElem? hk); cases this), fun k tk b hk hf => (hno ρ k tk b hk hf).elim, fun k tk k' tk' b hk hf => (hno ρ k tk b hk hf).elim, fun k tk0 h => ⟨tk0, h, .inl ⟨rfl, rfl⟩⟩⟩
  have hfree : ∀ b, Free F ρ [⟨h, .off⟩] b → Free F ρ offs b := fun b hb => ⟨hb.1, fun k tk hk hf => hno ρ k tk b hk hf⟩
  refine (hC F ρ w vs hsz hs1 (fun j v x hv hx => ?_)).mono fun e w' ⟨v, y, ρ2, os', he, hs2, hl, hcl', hok, hrep, hR0⟩ => ?_
  · have hc : clo1 x = true := by rw [List.all_eq_true] at hargs; exact hargs x (List.mem_of_getElem? hx)
    exact clo1_on hfree hc (hr j v x hv hx)
  · obtain ⟨D', g, c1, rest, rfl, hrest, hD', h0', hB', hRR⟩ := hR y os' hR0
    obtain ⟨ρ3, e3, hs3, hf3⟩ := one_obj (G := h + 1) (W := ⟨w, ρ, [⟨h, .off⟩]⟩) (D := D') rfl (fun b ⟨k, tk, h1, h2⟩ => (hno ρ k tk b h1 h2).elim) hs2 hcl' hD' (fun c k tk0 hk => by
      cases k with
      | zero =>
        simp at hk
        subst hk
        exact ⟨_, rfl, .inr (.inl (Nat.lt_succ_self _))⟩
      | succ k => simp at hk)
    obtain ⟨us, rfl, g1, g2⟩ := hrep.tu_inv
    refine ⟨_, .tu (.bx 0 (h + 1) 0 :: rest), ρ3, _, he, hs3, rfl, rfl, ?_, .tu us _ g1 (fun j v x hv hx => ?_), hRR⟩
    · simp only [ok2, List.all_cons, Bool.and_eq_true]
      refine ⟨by simp [ok1, okC, liveA, TC.isB], ?_⟩
      rw [List.all_eq_true] at hrest ⊢
      exact fun y hy => clo1_ok (hrest y hy)
    · cases j with
      | zero =>
        simp at hx
        subst hx
        rw [(g2 0 v (.bx 0 g 0) hv rfl).bx_invB h0' hB', ← e3]
        exact .ptr (tk := ⟨h + 1, .obj (CluP D')⟩) rfl rfl rfl
      | succ j =>
        have hx' : rest[j]? = some x := by simpa using hx
        have hc : clo1 x = true := by rw [List.all_eq_true] at hrest; exact hrest x (List.mem_of_getElem? hx')
        exact clo1_on hf3 hc (g2 (j + 1) v x hv (by simpa using hx'))
end
end Go.Proofs.Ytgjpeldgjpgbcaa
