/- Walks over abstract states: the rules for code, for operations in order and in drawn order. No conditions. -/
import Derived.Test.YtgjpeldgjpgbcaaAv
import Derived.ScopeJumps
namespace Go.Proofs.Ytgjpeldgjpgbcaa
set_option linter.unusedSimpArgs false
set_option linter.unusedVariables false
open Go.RowKit

abbrev APost := Exit → List AV → List TK → Prop
def CP (F : Nat → Prop) (Q : APost) (w0 : Bs) (e : Exit) (a : Act) (w : World) : Prop := ∃ ρ t st, St F ρ st w0 w ∧ Fm F ρ st w a t ∧ Q e t st
/-- From every state that the slots t and the store st stand for, the code leads to an exit as Q says. -/
def AW (P : Program) (c : Code) (Q : APost) (t : List AV) (st : List TK) : Prop := ∀ F ρ w0 w a, St F ρ st w0 w → Fm F ρ st w a t → c.wp P (CP F Q w0) a w

def thenA (next : List AV → List TK → Prop) (Q : APost) : APost
  | .normal, t, st => next t st
  | e, t, st => Q e t st
def inBlockA (id : Nat) (Q : APost) : APost
  | .exit id', t, st => if id' = id then Q .normal t st else Q (.exit id') t st
  | e, t, st => Q e t st
def jumpA (l : Nat) (J : List AV → List TK → Prop) (Q : APost) : APost
  | .goto l', t, st => l' = l ∧ J t st
  | e, t, st => Q e t st

theorem least (p : Nat → Prop) (h : ∃ n, p n) : ∃ n, p n ∧ ∀ m, p m → n ≤ m := by
  obtain ⟨n, hn⟩ := h
  induction n using Nat.strongRecOn with
  | _ n ih =>
    by_cases hm : ∃ m, m < n ∧ p m
    · obtain ⟨m, h1, h2⟩ := hm
      exact ih m h1 h2
    · refine ⟨n, hn, fun m hp => ?_⟩
      rcases Nat.lt_or_ge m n with h1 | h1
      · exact absurd ⟨m, h1, hp⟩ hm
      · exact h1
open Classical in
noncomputable def leastN (p : Nat → Prop) : Nat := if h : ∃ n, p n then Classical.choose (least p h) else 0
theorem leastN_spec {p : Nat → Prop} (h : ∃ n, p n) : p (leastN p) ∧ ∀ m, p m → leastN p ≤ m := by
  unfold leastN
  rw [dif_pos h]
  exact Classical.choose_spec (least p h)

section
variable {P : Program} {Q Q' : APost} {t : List AV} {st : List TK}
theorem AW.mono {c : Code} (h : AW P c Q t st) (hq : ∀ e t st, Q e t st → Q' e t st) : AW P c Q' t st :=
  fun F ρ w0 w a hs hf => wp_mono (h F ρ w0 w a hs hf) fun _ _ _ ⟨ρ', t', st', h1, h2, h3⟩ => ⟨ρ', t', st', h1, h2, hq _ _ _ h3⟩
theorem AW.skip (h : Q .normal t st) : AW P .skip Q t st := fun _ ρ _ _ _ hs hf => wp_skip ⟨ρ, t, st, hs, hf, h⟩
theorem AW.label {l : Nat} (h : Q .normal t st) : AW P (.label l) Q t st := fun _ ρ _ _ _ hs hf => wp_label ⟨ρ, t, st, hs, hf, h⟩
theorem AW.exit {id : Nat} (h : Q (.exit id) t st) : AW P (.exit id) Q t st := fun _ ρ _ _ _ hs hf => wp_exit ⟨ρ, t, st, hs, hf, h⟩
theorem AW.goto {l : Nat} (h : Q (.goto l) t st) : AW P (.goto l) Q t st := fun _ ρ _ _ _ hs hf => wp_goto ⟨ρ, t, st, hs, hf, h⟩
theorem AW.ret (h : Q .ret t st) : AW P .ret Q t st := fun _ ρ _ _ _ hs hf => wp_ret ⟨ρ, t, st, hs, hf, h⟩
theorem AW.seq {x y : Code} (h : AW P x (thenA (fun t st => AW P y Q t st) Q) t st) : AW P (.seq x y) Q t st := fun F ρ w0 w a hs hf =>
  wp_seq (wp_mono (h F ρ w0 w a hs hf) fun e a' w' ⟨ρ', t', st', h1, h2, h3⟩ => by
    cases e with
    | normal => exact h3 F ρ' w0 w' a' h1 h2
    | _ => exact ⟨ρ', t', st', h1, h2, h3⟩)
theorem AW.cond {c : Operand} {x y : Code} {b : Bool} (hc : evA t c = .sc (.bool b)) (ht : b = true → AW P x Q t st) (hf : b = false → AW P y Q t st) : AW P (.cond c x y) Q t st := fun F ρ w0 w a hs hm => by
  have he := hm.ev c
  rw [hc] at he
  exact wp_cond_split he.of_sc (fun e => ht e F ρ w0 w a hs hm) (fun e => hf e F ρ w0 w a hs hm)
theorem AW.block {id : Nat} {c : Code} (h : AW P c (inBlockA id Q) t st) : AW P (.block id c) Q t st := fun F ρ w0 w a hs hm =>
  wp_block (wp_mono (h F ρ w0 w a hs hm) fun e a' w' ⟨ρ', t', st', h1, h2, h3⟩ => by
    cases e with
    | exit id' =>
      simp only [Exit.inBlock, inBlockA] at h3 ⊢
      split
      · rename_i he
        rw [if_pos he] at h3
        exact ⟨ρ', t', st', h1, h2, h3⟩
      · rename_i he
        rw [if_neg he] at h3
        exact ⟨ρ', t', st', h1, h2, h3⟩
    | _ => exact ⟨ρ', t', st', h1, h2, h3⟩)
/-- A loop: I m holds at a round's head, and each round lowers m. -/
theorem AW.loop {c : Code} (I : Nat → List AV → List TK → Prop) (m : Nat) (h0 : I m t st) (round : ∀ n t st, I n t st → AW P c (thenA (fun t' st' => ∃ m, m < n ∧ I m t' st') Q) t st) : AW P (.loop c) Q t st := fun F ρ w0 w a hs hm => by
  let p (a' : Act) (w' : World) (n : Nat) : Prop := ∃ ρ t st, St F ρ st w0 w' ∧ Fm F ρ st w' a' t ∧ I n t st
  refine wp_loop (fun a' w' => ∃ n, p a' w' n) (fun a' w' => leastN (p a' w')) ⟨m, ρ, t, st, hs, hm, h0⟩ fun a' w' hI => ?_
  obtain ⟨⟨ρ1, t1, st1, h1, h2, h3⟩, _⟩ := leastN_spec hI
  refine wp_mono (round _ t1 st1 h3 F ρ1 w0 w' a' h1 h2) fun e a2 w2 ⟨ρ2, t2, st2, g1, g2, g3⟩ => ?_
  cases e with
  | normal =>
    obtain ⟨m', hlt, hI'⟩ := g3
    have hp : p a2 w2 m' := ⟨ρ2, t2, st2, g1, g2, hI'⟩
    exact ⟨⟨m', hp⟩, Nat.lt_of_le_of_lt ((leastN_spec ⟨m', hp⟩).2 m' hp) hlt⟩
  | _ => exact ⟨ρ2, t2, st2, g1, g2, g3⟩
/-- A scope with one label. -/
theorem AW.scope {c rest : Code} (l : Nat) (I : Nat → List AV → List TK → Prop) (hl : findLabel c l = some rest) (first : AW P c (jumpA l (fun t st => ∃ m, I m t st) Q) t st)
    (pass : ∀ n t st, I n t st → AW P rest (jumpA l (fun t' st' => ∃ m, m < n ∧ I m t' st') Q) t st) : AW P (.scope c) Q t st := fun F ρ w0 w a hs hm => by
  let p (a' : Act) (w' : World) (n : Nat) : Prop := ∃ ρ t st, St F ρ st w0 w' ∧ Fm F ρ st w' a' t ∧ I n t st
  refine wp_scope_jumps l (fun a' w' => ∃ n, p a' w' n) (fun a' w' => leastN (p a' w')) hl ?_ fun a' w' hI => ?_
  · refine wp_mono (first F ρ w0 w a hs hm) fun e a2 w2 ⟨ρ2, t2, st2, g1, g2, g3⟩ => ?_
    cases e with
    | goto l' => exact ⟨g3.1, g3.2.elim fun m hI => ⟨m, ρ2, t2, st2, g1, g2, hI⟩⟩
    | _ => exact ⟨ρ2, t2, st2, g1, g2, g3⟩
  · obtain ⟨⟨ρ1, t1, st1, h1, h2, h3⟩, _⟩ := leastN_spec hI
    refine wp_mono (pass _ t1 st1 h3 F ρ1 w0 w' a' h1 h2) fun e a2 w2 ⟨ρ2, t2, st2, g1, g2, g3⟩ => ?_
    cases e with
    | goto l' =>
      obtain ⟨e', m', hlt, hI'⟩ := g3
      have hp : p a2 w2 m' := ⟨ρ2, t2, st2, g1, g2, hI'⟩
      exact ⟨e', ⟨m', hp⟩, Nat.lt_of_le_of_lt ((leastN_spec ⟨m', hp⟩).2 m' hp) hlt⟩
    | _ => exact ⟨ρ2, t2, st2, g1, g2, g3⟩
end

/-- Operations in order. -/
def AL (P : Program) (ops : Array Oper) (K : List AV → List TK → Prop) (l : List Oper) (t : List AV) (st : List TK) : Prop :=
  ∀ F ρ w0 w a, St F ρ st w0 w → Fm F ρ st w a t → ∀ Q : Exit → Act → World → Prop, (∀ ρ' t' st' w' a', St F ρ' st' w0 w' → Fm F ρ' st' w' a' t' → K t' st' → Q .normal a' w') → wpList P ops Q l a w
/-- One operation: what it leaves, and how the store stands behind it. -/
def AOp (P : Program) (o : Oper) (t : List AV) (st : List TK) (K : AV → List TK → Prop) : Prop :=
  ∀ F ρ w0 w a, St F ρ st w0 w → Fm F ρ st w a t → ∀ (next : Act → World → Prop) (Q : Exit → Act → World → Prop), (∀ v w' ρ' st' x, St F ρ' st' w0 w' → Mv F ρ st w ρ' st' w' → Rep F ρ' st' w' v x → K x st' → next (a.put o.dst v) w') → o.wp P a w next Q
/-- One that only makes memory. -/
def AOpB (P : Program) (o : Oper) (t : List AV) (st : List TK) (K : AV → List TK → Prop) : Prop :=
  ∀ F ρ w0 w a, St F ρ st w0 w → Fm F ρ st w a t → ∀ (next : Act → World → Prop) (Q : Exit → Act → World → Prop), (∀ v w' ρ' st' x, St F ρ' st' w0 w' → Mv F ρ st w ρ' st' w' → Rep F ρ' st' w' v x → Below w.heap.size w w' → K x st' → next (a.put o.dst v) w') → o.wp P a w next Q
/-- One that only reads. -/
def ARd (P : Program) (o : Oper) (t : List AV) (st : List TK) (x : AV) : Prop :=
  ∀ F ρ w0 w a, St F ρ st w0 w → Fm F ρ st w a t → ∃ v, Rep F ρ st w v x ∧ ∀ w', Below w.heap.size w w' → (execOp a.eval o).run P w' = .ok (.value v) w'

section
variable {P : Program} {ops : Array Oper} {K : List AV → List TK → Prop} {o : Oper} {rest l : List Oper} {t : List AV} {st : List TK} {Q : APost} {x : AV}
theorem AOpB.op {k : AV → List TK → Prop} (h : AOpB P o t st k) : AOp P o t st k := fun F ρ w0 w a hs hm next Q hn => h F ρ w0 w a hs hm next Q fun v w' ρ' st' x h1 h2 h3 _ h5 => hn v w' ρ' st' x h1 h2 h3 h5
theorem ARd.opB {k : AV → List TK → Prop} (h : ARd P o t st x) (hk : k x st) : AOpB P o t st k := fun F ρ w0 w a hs hm next Q hn => by
  obtain ⟨v, h1, h2⟩ := h F ρ w0 w a hs hm
  unfold Oper.wp
  rw [h2 w (Below.refl _ _)]
  exact hn v w ρ st x hs (Mv.refl _ _ _ _) h1 (Below.refl _ _) hk
theorem AL.nil (h : K t st) : AL P ops K [] t st := fun _ ρ _ w a hs hm _ hq => hq ρ t st w a hs hm h
theorem AL.op (hg : o.guard = none) (h : AOp P o t st fun x st' => AL P ops K rest (putA t o.dst x) st') : AL P ops K (o :: rest) t st := fun F ρ w0 w a hs hm Q hq =>
  wpList_plain hg fun k hk => h F ρ w0 w a hs hm k Q fun _ w' ρ' st' x h1 h2 h3 h4 => hk _ _ (h4 F ρ' w0 w' _ h1 ((hm.mv h2).put _ h3) Q hq)
theorem AL.rd (hg : o.guard = none) (h : ARd P o t st x) (hk : AL P ops K rest (putA t o.dst x) st) : AL P ops K (o :: rest) t st := AL.op hg (AOpB.op (ARd.opB h hk))
theorem yielded_of {F : Nat → Prop} {ρ : Loc} {w : World} {a : Act} (hm : Fm F ρ st w a t) {j d : Nat} {b : Bool} (hd : (ops[j]?).bind (·.dst) = some d) (hb : evA t (.tmp d) = .sc (.bool b)) : yielded ops a.tmps j = some b := by
  unfold yielded
  rw [hd]
  simp only [Option.bind_some]
  have hd' : d < t.length := by
    rcases Nat.lt_or_ge d t.length with h | h
    · exact h
    · simp [evA, List.getD_eq_getElem?_getD, List.getElem?_eq_none h] at hb
  have h1 : t[d]? = some t[d] := List.getElem?_eq_getElem hd'
  have h2 : a.tmps[d]? = some (a.tmps[d]'(by rw [hm.size]; exact hd')) := Array.getElem?_eq_getElem (by rw [hm.size]; exact hd')
  have h3 := hm.rep d _ _ h2 h1
  have h4 : t[d] = .sc (.bool b) := by simpa [evA, List.getD_eq_getElem?_getD, h1] using hb
  rw [h4] at h3
  rw [h2, h3.of_sc]
theorem AL.on {j d : Nat} {b : Bool} (hg : o.guard = some (j, b)) (hd : (ops[j]?).bind (·.dst) = some d) (hb : evA t (.tmp d) = .sc (.bool b)) (h : AOp P o t st fun x st' => AL P ops K rest (putA t o.dst x) st') : AL P ops K (o :: rest) t st := fun F ρ w0 w a hs hm Q hq =>
  wpList_step fun k hk => by
    rw [if_pos (by unfold Region.wanted; rw [hg]; simp only []; rw [yielded_of hm hd hb]; simp)]
    exact h F ρ w0 w a hs hm k Q fun _ w' ρ' st' x h1 h2 h3 h4 => hk _ _ (h4 F ρ' w0 w' _ h1 ((hm.mv h2).put _ h3) Q hq)
theorem AL.off {j d : Nat} {b c : Bool} (hg : o.guard = some (j, b)) (hd : (ops[j]?).bind (·.dst) = some d) (hb : evA t (.tmp d) = .sc (.bool c)) (hne : c = !b) (h : AL P ops K rest (putA t o.dst (.sc undef)) st) : AL P ops K (o :: rest) t st := fun F ρ w0 w a hs hm Q hq =>
  wpList_step fun k hk => by
    rw [if_neg (by unfold Region.wanted; rw [hg]; simp only []; rw [yielded_of hm hd hb, hne]; cases b <;> simp)]
    exact hk _ _ (h F ρ w0 w _ hs (hm.put _ (.sc _)) Q hq)
theorem yielded_of' {F : Nat → Prop} {ρ : Loc} {w : World} {a : Act} (hm : Fm F ρ st w a t) {j d : Nat} {v : Value} (hd : (ops[j]?).bind (·.dst) = some d) (hb : evA t (.tmp d) = .sc v) : yielded ops a.tmps j = match v with | .bool c => some c | _ => none := by
  unfold yielded
  rw [hd]
  simp only [Option.bind_some]
  have hd' : d < t.length := by
    rcases Nat.lt_or_ge d t.length with h | h
    · exact h
    · simp [evA, List.getD_eq_getElem?_getD, List.getElem?_eq_none h] at hb
  have h1 : t[d]? = some t[d] := List.getElem?_eq_getElem hd'
  have h2 : a.tmps[d]? = some (a.tmps[d]'(by rw [hm.size]; exact hd')) := Array.getElem?_eq_getElem (by rw [hm.size]; exact hd')
  have h3 := hm.rep d _ _ h2 h1
  have h4 : t[d] = .sc v := by simpa [evA, List.getD_eq_getElem?_getD, h1] using hb
  rw [h4] at h3
  rw [h2, h3.of_sc]
  cases v <;> rfl
theorem AL.offu {j d : Nat} {b : Bool} {v : Value} (hg : o.guard = some (j, b)) (hd : (ops[j]?).bind (·.dst) = some d) (hb : evA t (.tmp d) = .sc v) (hv : (match v with | .bool _ => false | _ => true) = true) (h : AL P ops K rest (putA t o.dst (.sc undef)) st) : AL P ops K (o :: rest) t st := fun F ρ w0 w a hs hm Q hq =>
  wpList_step fun k hk => by
    have hy := yielded_of' hm hd hb
    rw [if_neg (by unfold Region.wanted; rw [hg]; simp only []; rw [hy]; cases v <;> simp_all)]
    exact hk _ _ (h F ρ w0 w _ hs (hm.put _ (.sc _)) Q hq)
theorem AW.region {id : Nat} (h : AL P l.toArray (fun t st => Q .normal t st) l t st) : AW P (.region id l.toArray false) Q t st := fun F ρ w0 w a hs hm =>
  wp_region_lit (h F ρ w0 w a hs hm _ fun ρ' t' st' _ _ h1 h2 h3 => ⟨ρ', t', st', h1, h2, h3⟩)

/-- Operations whose order is drawn. -/
def AD (P : Program) (l : List Oper) (K : List AV → List TK → Prop) (fuel : Nat) (listed : Array Bool) (t : List AV) (st : List TK) : Prop :=
  ∀ F ρ w0 w a, St F ρ st w0 w → Fm F ρ st w a t → ∀ Q : Exit → Act → World → Prop, (∀ ρ' t' st' w' a', St F ρ' st' w0 w' → Fm F ρ' st' w' a' t' → K t' st' → Q .normal a' w') → RB P l.toArray Q none fuel listed a w
theorem AW.draw {id : Nat} (hp : P.follows .mixedOrders = true) (h : AD P l (fun t st => Q .normal t st) l.length (Array.replicate l.length false) t st) : AW P (.region id l.toArray true) Q t st := fun F ρ w0 w a hs hm =>
  rb_start hp (h F ρ w0 w.drew a (hs.grow (Below.refl _ _).drew) (hm.mv (Mv.below (Below.refl _ _).drew)) _ fun ρ' t' st' _ _ h1 h2 h3 => ⟨ρ', t', st', h1, h2, h3⟩)
theorem wanted_none {tm : Array Value} (hg : o.guard = none) : Region.wanted o (yielded ops tm) = true := by simp [Region.wanted, hg]
/-- Whether an operation is wanted. -/
def WantA (ops : Array Oper) (o : Oper) (t : List AV) (y : Bool) : Prop := match o.guard with
  | none => y = true
  | some (j, b) => ∃ d v, (ops[j]?).bind (·.dst) = some d ∧ evA t (.tmp d) = .sc v ∧ y = (match v with | .bool c => c == b | _ => false)
theorem WantA.run {y : Bool} (h : WantA ops o t y) {F : Nat → Prop} {ρ : Loc} {w : World} {a : Act} (hm : Fm F ρ st w a t) : Region.wanted o (yielded ops a.tmps) = y := by
  unfold WantA at h
  unfold Region.wanted
  cases hg : o.guard with
  | none => rw [hg] at h; exact h.symm
  | some p =>
    obtain ⟨j, b⟩ := p
    rw [hg] at h
    obtain ⟨d, v, h1, h2, rfl⟩ := h
    simp only []
    rw [yielded_of' hm h1 h2]
    cases v with
    | bool c => cases c <;> cases b <;> rfl
    | _ => rfl
theorem AD.take {fuel : Nat} {listed : Array Bool} (i : Nat) (hi : l[i]? = some o) (hs : Region.noSelect l.toArray = true) (hf : Region.free .any l.toArray listed i = true) (hr : (Region.ready .any l.toArray listed).contains i = true)
    (hw : WantA l.toArray o t true) (h : ARd P o t st x) (hk : AD P l K fuel (listed.setIfInBounds i true) (putA t o.dst x) st) : AD P l K (fuel + 1) listed t st := fun F ρ w0 w a hs' hm Q hq => by
  obtain ⟨v, h1, h2⟩ := h F ρ w0 w a hs' hm
  exact rb_take i hi hs hf hr (hw.run hm) (fun w' hb => h2 w' hb) (hk F ρ w0 w _ hs' (hm.put _ h1) Q hq)
theorem AD.skip {fuel : Nat} {listed : Array Bool} (i : Nat) (hi : l[i]? = some o) (hs : Region.noSelect l.toArray = true) (hf : Region.free .any l.toArray listed i = true) (hr : (Region.ready .any l.toArray listed).contains i = true)
    (hw : WantA l.toArray o t false) (hk : AD P l K fuel (listed.setIfInBounds i true) (putA t o.dst (.sc undef)) st) : AD P l K (fuel + 1) listed t st := fun F ρ w0 w a hs' hm Q hq =>
  rb_skip i hi hs hf hr (hw.run hm) (hk F ρ w0 w _ hs' (hm.put _ (.sc _)) Q hq)
theorem AD.move {fuel : Nat} {listed : Array Bool} (i : Nat) (hi : l[i]? = some o) (hr : Region.ready .any l.toArray listed = [i]) (hw : WantA l.toArray o t true)
    (h : AOpB P o t st fun x st' => AD P l K fuel (listed.setIfInBounds i true) (putA t o.dst x) st') : AD P l K (fuel + 1) listed t st := fun F ρ w0 w a hs' hm Q hq =>
  rb_move i hi hr (hw.run hm) fun k hk => h F ρ w0 w a hs' hm k (NoPanic Q) fun _ w' ρ' st' x h1 h2 h3 h4 h5 => hk _ _ h4 (h5 F ρ' w0 w' _ h1 ((hm.mv h2).put _ h3) Q hq)
theorem AD.done {fuel : Nat} {listed : Array Bool} (hr : Region.ready .any l.toArray listed = []) (h : K t st) : AD P l K fuel listed t st := fun _ ρ _ w a hs hm _ hq => rb_done hr (hq ρ t st w a hs hm h)
end
end Go.Proofs.Ytgjpeldgjpgbcaa
