/- Walks over abstract states: a scope with labels. No conditions. -/
import Derived.Test.YtgjpeldgjpgbcaaAz
namespace Go.Proofs.Ytgjpeldgjpgbcaa
set_option linter.unusedSimpArgs false
set_option linter.unusedVariables false
open Go.RowKit

section
variable {P : Program} {a : Act} {w : World}
/-- A scope with labels: what holds at each, and a measure that every jump lowers. -/
theorem wp_scope_all {Q : Exit → Act → World → Prop} {c : Code} (rest : Nat → Code) (ok : Nat → Prop) (J : Nat → Act → World → Prop) (μ : Nat → Act → World → Nat) (hf : ∀ l, ok l → findLabel c l = some (rest l))
    (first : c.wp P (fun e a w => match e with | .goto l => ok l ∧ J l a w | e => Q e a w) a w)
    (pass : ∀ l a w, ok l → J l a w → (rest l).wp P (fun e a' w' => match e with | .goto l' => ok l' ∧ J l' a' w' ∧ μ l' a' w' < μ l a w | e => Q e a' w') a w) : (Code.scope c).wp P Q a w := by
  intro b k cs
  have hg : ∀ l, ok l → gotoIn l (.inScope c :: k) = some (.code (rest l) :: .inScope c :: k) := fun l hl => by simp [gotoIn, hf l hl]
  have key : ∀ n l a w, ok l → μ l a w = n → J l a w → ∃ e a' w', Q e a' w' ∧ Arrives P (lone (b.at a (.code (rest l) :: .inScope c :: k)) cs w) b k cs e a' w' := by
    intro n
    induction n using Nat.strongRecOn with
    | _ n ih =>
      intro l a w hl hn hJ
      obtain ⟨e, a₁, w₁, hq, harr⟩ := pass l a w hl hJ b (.inScope c :: k) cs
      cases e with
      | normal => exact ⟨.normal, a₁, w₁, hq, Steps.trans harr (.one step_inScope)⟩
      | exit id => exact ⟨.exit id, a₁, w₁, hq, fun k' hk => harr k' (by simp [exitTo, hk])⟩
      | goto l' =>
        obtain ⟨hl', hJ', hlt⟩ := hq
        obtain ⟨e₂, a₂, w₂, hq₂, harr₂⟩ := ih _ (by omega) l' a₁ w₁ hl' rfl hJ'
        exact ⟨e₂, a₂, w₂, hq₂, .of_steps (harr _ (hg l' hl')) harr₂⟩
      | ret => exact ⟨_, a₁, w₁, hq, harr⟩
      | panic ch => exact ⟨_, a₁, w₁, hq, harr⟩
      | outgrown => exact ⟨_, a₁, w₁, hq, harr⟩
  obtain ⟨e, a₁, w₁, hq, harr⟩ := first b (.inScope c :: k) cs
  cases e with
  | normal => exact ⟨.normal, a₁, w₁, hq, .head step_scope (Steps.trans harr (.one step_inScope))⟩
  | exit id => exact ⟨.exit id, a₁, w₁, hq, fun k' hk => .head step_scope (harr k' (by simp [exitTo, hk]))⟩
  | goto l' =>
    obtain ⟨hl', hJ'⟩ := hq
    obtain ⟨e₂, a₂, w₂, hq₂, harr₂⟩ := key _ l' a₁ w₁ hl' rfl hJ'
    exact ⟨e₂, a₂, w₂, hq₂, .of_steps (.head step_scope (harr _ (hg l' hl'))) harr₂⟩
  | ret => exact ⟨_, a₁, w₁, hq, .of_steps (.one step_scope) harr⟩
  | panic ch => exact ⟨_, a₁, w₁, hq, .of_steps (.one step_scope) harr⟩
  | outgrown => exact ⟨_, a₁, w₁, hq, .of_steps (.one step_scope) harr⟩

variable {Q : APost} {c : Code} {t : List AV} {st : List TK}
/-- As Q; by a goto to a label: what holds there, below n. -/
def gotoA (I : Nat → Nat → List AV → List TK → Prop) (n : Option Nat) (Q : APost) : APost
  | .goto l, t, st => ∃ m, I l m t st ∧ ∀ n', n = some n' → m < n'
  | e, t, st => Q e t st
/-- B l: the code behind the label l. I l m: what holds there at the measure m. -/
theorem AW.labels (B : Nat → Code) (ok : Nat → Prop) (I : Nat → Nat → List AV → List TK → Prop) (hok : ∀ l m t st, I l m t st → ok l) (hf : ∀ l, ok l → findLabel c l = some (.seq .skip (B l)))
    (pass : ∀ n, (∀ m, m < n → ∀ l t st, I l m t st → ∀ q, (∀ n', q = some n' → m ≤ n') → AW P (B l) (gotoA I q Q) t st) → ∀ l t st, I l n t st → AW P (B l) (gotoA I (some n) Q) t st)
    (first : (∀ l m t st, I l m t st → AW P (B l) (gotoA I none Q) t st) → AW P c (gotoA I none Q) t st) : AW P (.scope c) Q t st := by
  have weak : ∀ {cc : Code} {n : Nat} {q : Option Nat} {t st}, (∀ n', q = some n' → n ≤ n') → AW P cc (gotoA I (some n) Q) t st → AW P cc (gotoA I q Q) t st := fun {cc n q t st} hq h => h.mono fun e t st hh => by
    cases e with
    | goto l => obtain ⟨m, h1, h2⟩ := hh; exact ⟨m, h1, fun n' hn => Nat.lt_of_lt_of_le (h2 n rfl) (hq n' hn)⟩
    | _ => exact hh
  have all : ∀ n l t st, I l n t st → AW P (B l) (gotoA I (some n) Q) t st := by
    intro n
    induction n using Nat.strongRecOn with
    | _ n ih => exact pass n fun m hm l t st hI q hq => weak hq (ih m hm l t st hI)
  have fst := first fun l m t st hI => weak (fun n' h => by cases h) (all m l t st hI)
  intro F ρ w0 w a hs hm
  let p (l : Nat) (a' : Act) (w' : World) (n : Nat) : Prop := ∃ ρ t st, St F ρ st w0 w' ∧ Fm F ρ st w' a' t ∧ I l n t st
  refine wp_scope_all (fun l => .seq .skip (B l)) ok (fun l a' w' => ∃ n, p l a' w' n) (fun l a' w' => leastN (p l a' w')) hf ?_ fun l a' w' hl hI => ?_
  · refine wp_mono (fst F ρ w0 w a hs hm) fun e a2 w2 ⟨ρ2, t2, st2, g1, g2, g3⟩ => ?_
    cases e with
    | goto l' => obtain ⟨m, h1, _⟩ := g3; exact ⟨hok _ _ _ _ h1, m, ρ2, t2, st2, g1, g2, h1⟩
    | _ => exact ⟨ρ2, t2, st2, g1, g2, g3⟩
  · obtain ⟨⟨ρ1, t1, st1, h1, h2, h3⟩, _⟩ := leastN_spec hI
    refine wp_seq (wp_skip ?_)
    refine wp_mono (all _ l t1 st1 h3 F ρ1 w0 w' a' h1 h2) fun e a2 w2 ⟨ρ2, t2, st2, g1, g2, g3⟩ => ?_
    cases e with
    | goto l' =>
      obtain ⟨m, h4, h5⟩ := g3
      have hp : p l' a2 w2 m := ⟨ρ2, t2, st2, g1, g2, h4⟩
      exact ⟨hok _ _ _ _ h4, ⟨m, hp⟩, Nat.lt_of_le_of_lt ((leastN_spec ⟨m, hp⟩).2 m hp) (h5 _ rfl)⟩
    | _ => exact ⟨ρ2, t2, st2, g1, g2, g3⟩
/-- What holds at a label: as at a loop's head. -/
def LabI {ι : Type} (t : List AV) (st : List TK) (scr : List Nat) (up : ι → List (Nat × AV)) (tscr : List Nat) (tup : ι → List (Nat × TK)) (J : ι → Prop) (μ : ι → Nat) (n : Nat) (t' : List AV) (st' : List TK) : Prop :=
  ∃ k, J k ∧ μ k = n ∧ Wk t' (upds (anys t scr) (up k)) ∧ Sk tscr 0 st' (upds st (tup k))
theorem AW.labI {ι : Type} {scr : List Nat} {up : ι → List (Nat × AV)} {tscr : List Nat} {tup : ι → List (Nat × TK)} {J : ι → Prop} {μ : ι → Nat} {n : Nat} {t' : List AV} {st' : List TK} (hI : LabI t st scr up tscr tup J μ n t' st')
    (h : ∀ k gs, J k → μ k = n → AW P c Q (upds (anys t scr) (up k)) (Go.Proofs.Ytgjpeldgjpgbcaa.offs gs (upds st (tup k)) tscr)) : AW P c Q t' st' := by
  obtain ⟨k, hJ, hk, hw, hs⟩ := hI
  obtain ⟨h1, h2⟩ := hs.get
  let gs : Nat → Nat := fun j => ((st'[j]?).map TK.g).getD 0
  refine AW.wk hw (AW.offs tscr gs (fun j tk hj => by simp [gs, hj]) ?_)
  have e : Go.Proofs.Ytgjpeldgjpgbcaa.offs gs st' tscr = Go.Proofs.Ytgjpeldgjpgbcaa.offs gs (upds st (tup k)) tscr := by
    apply List.ext_getElem?
    intro j
    rw [(offs_get gs tscr st' j).2, (offs_get gs tscr _ j).2, h1]
    rcases h2 j with h3 | h3
    · rw [Nat.zero_add] at h3
      by_cases hj : j < (upds st (tup k)).length
      · simp only [h3, hj, and_self, if_true]
      · simp only [h3, hj, and_false, if_false]
        rw [List.getElem?_eq_none (by omega), List.getElem?_eq_none (by omega)]
    · rw [h3]
  rw [e]
  exact h k gs hJ hk
/-- A label's row. -/
structure Lab where
  ι : Type
  scr : List Nat
  up : ι → List (Nat × AV)
  tscr : List Nat
  tup : ι → List (Nat × TK)
  J : ι → Prop
  μ : ι → Nat
def labB (c : Code) (l : Nat) : Code := match findLabel c l with | some (.seq _ b) => b | _ => .skip
def LabsI (t : List AV) (st : List TK) (Ls : List (Nat × Lab)) (l n : Nat) (t' : List AV) (st' : List TK) : Prop := ∃ L, (l, L) ∈ Ls ∧ LabI t st L.scr L.up L.tscr L.tup L.J L.μ n t' st'
inductive AllL (p : Nat → Lab → Prop) : List (Nat × Lab) → Prop
  | nil : AllL p []
  | cons {l L xs} (h : p l L) (t : AllL p xs) : AllL p ((l, L) :: xs)
theorem AllL.get {p : Nat → Lab → Prop} {xs} (h : AllL p xs) {l L} (hm : (l, L) ∈ xs) : p l L := by
  induction h with
  | nil => cases hm
  | cons h1 h2 ih =>
    cases hm with
    | head => exact h1
    | tail _ h => exact ih h
theorem gotoI {Ls : List (Nat × Lab)} {q : Option Nat} {l : Nat} {L : Lab} {t' : List AV} {st' : List TK} (hl : (l, L) ∈ Ls) (k : L.ι) (hJ : L.J k) (hm : ∀ n', q = some n' → L.μ k < n') (hw : Wk t' (upds (anys t L.scr) (L.up k))) (hs : Sk L.tscr 0 st' (upds st (L.tup k))) : gotoA (LabsI t st Ls) q Q (.goto l) t' st' :=
  ⟨L.μ k, ⟨L, hl, k, hJ, rfl, hw, hs⟩, hm⟩
theorem AW.scopeL (Ls : List (Nat × Lab)) (hf : AllL (fun l _ => findLabel c l = some (.seq .skip (labB c l))) Ls)
    (pass : AllL (fun l L => ∀ (k : L.ι) gs, L.J k → (∀ l' L', (l', L') ∈ Ls → ∀ k' : L'.ι, L'.J k' → L'.μ k' < L.μ k → ∀ t' st', Wk t' (upds (anys t L'.scr) (L'.up k')) → Sk L'.tscr 0 st' (upds st (L'.tup k')) → AW P (labB c l') (gotoA (LabsI t st Ls) (some (L.μ k)) Q) t' st') →
      AW P (labB c l) (gotoA (LabsI t st Ls) (some (L.μ k)) Q) (upds (anys t L.scr) (L.up k)) (Go.Proofs.Ytgjpeldgjpgbcaa.offs gs (upds st (L.tup k)) L.tscr)) Ls)
    (first : (∀ l' L', (l', L') ∈ Ls → ∀ k' : L'.ι, L'.J k' → ∀ t' st', Wk t' (upds (anys t L'.scr) (L'.up k')) → Sk L'.tscr 0 st' (upds st (L'.tup k')) → AW P (labB c l') (gotoA (LabsI t st Ls) none Q) t' st') → AW P c (gotoA (LabsI t st Ls) none Q) t st) : AW P (.scope c) Q t st := by
  refine AW.labels (labB c) (fun l => ∃ L, (l, L) ∈ Ls) (LabsI t st Ls) (fun l m t st ⟨L, h, _⟩ => ⟨L, h⟩) (fun l ⟨L, h⟩ => hf.get h) ?_ ?_
  · rintro n ih l t' st' ⟨L, hL, hI⟩
    refine AW.labI hI fun k gs hJ hk => ?_
    subst hk
    exact pass.get hL k gs hJ fun l' L' hL' k' hJ' hlt t2 st2 hw hs => ih _ hlt l' t2 st2 ⟨L', hL', k', hJ', rfl, hw, hs⟩ _ fun n' e => by cases e; exact Nat.le_of_lt hlt
  · intro H
    exact first fun l' L' hL' k' hJ' t2 st2 hw hs => H l' _ t2 st2 ⟨L', hL', k', hJ', rfl, hw, hs⟩
theorem thenA_goto {l : Nat} {R : List AV → List TK → Prop} (h : Q (.goto l) t st) : thenA R Q (.goto l) t st := h
theorem inBlockA_goto {l id : Nat} (h : Q (.goto l) t st) : inBlockA id Q (.goto l) t st := h
theorem setA_own {k g el sz : Nat} {xs : List (List AV)} (hk : st[k]? = some ⟨g, .own el sz xs⟩) : setA st (.ow k g) = some (.sl xs) := by simp [setA, set1, set0, nz, hk]
end
end Go.Proofs.Ytgjpeldgjpgbcaa
