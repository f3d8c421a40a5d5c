/- A part of a proof. -/
import Derived.Lib.SlBytesConst
import Derived.LoopN
import Derived.Test.YtlapcfnmmpbeeaaPT04
set_option linter.unusedSimpArgs false
set_option linter.unusedVariables false
namespace Go.Proofs.Ytlapcfnmmpbeeaa
open Go.RowKit
section
variable {P : Program} {a : Act} {w : World}
theorem wp_scope_all {Q : Exit → Act → World → Prop} {c : Code} (rest : Nat → Code) (ok : Nat → Prop) (J : Nat → Act → World → Prop) (μ : Nat → Act → World → Nat) (hf : ∀ l, ok l → findLabel c l = some (rest l))
    (first : c.wp P (fun e a w => match e with | .goto l => ok l ∧ J l a w | e => Q e a w) a w)
    (pass : ∀ l a w, ok l → J l a w → (rest l).wp P (fun e a' w' => match e with | .goto l' => ok l' ∧ J l' a' w' ∧ μ l' a' w' < μ l a w | e => Q e a' w') a w) : (Code.scope c).wp P Q a w := by
  intro b k cs
  have hg : ∀ l, ok l → gotoIn l (.inScope c :: k) = some (.code (rest l) :: .inScope c :: k) := fun l hl => by simp [gotoIn, hf l hl]
  have key : ∀ n l a w, ok l → μ l a w = n → J l a w → ∃ e a' w', Q e a' w' ∧ Arrives P (lone (b.at a (.code (rest l) :: .inScope c :: k)) cs w) b k cs e a' w' := by
    intro n
    induction n using Nat.strongRecOn with
    | _ n ih =>
      intro l a w hl hn hJ; obtain ⟨e, a₁, w₁, hq, harr⟩ := pass l a w hl hJ b (.inScope c :: k) cs
      cases e with
      | normal => exact ⟨.normal, a₁, w₁, hq, Steps.trans harr (.one step_inScope)⟩
      | exit id => exact ⟨.exit id, a₁, w₁, hq, fun k' hk => harr k' (by simp [exitTo, hk])⟩
      | goto l' =>
        obtain ⟨hl', hJ', hlt⟩ := hq
        obtain ⟨e₂, a₂, w₂, hq₂, harr₂⟩ := ih _ (by omega) l' a₁ w₁ hl' rfl hJ'
        exact ⟨e₂, a₂, w₂, hq₂, .of_steps (harr _ (hg l' hl')) harr₂⟩
      | ret => exact ⟨_, a₁, w₁, hq, harr⟩
      | panic ch => exact ⟨_, a₁, w₁, hq, harr⟩
      | outgrown => exact ⟨_, a₁, w₁, hq, harr⟩
  obtain ⟨e, a₁, w₁, hq, harr⟩ := first b (.inScope c :: k) cs
  cases e with
  | normal => exact ⟨.normal, a₁, w₁, hq, .head step_scope (Steps.trans harr (.one step_inScope))⟩
  | exit id => exact ⟨.exit id, a₁, w₁, hq, fun k' hk => .head step_scope (harr k' (by simp [exitTo, hk]))⟩
  | goto l' =>
    obtain ⟨hl', hJ'⟩ := hq
    obtain ⟨e₂, a₂, w₂, hq₂, harr₂⟩ := key _ l' a₁ w₁ hl' rfl hJ'
    exact ⟨e₂, a₂, w₂, hq₂, .of_steps (.head step_scope (harr _ (hg l' hl'))) harr₂⟩
  | ret => exact ⟨_, a₁, w₁, hq, .of_steps (.one step_scope) harr⟩
  | panic ch => exact ⟨_, a₁, w₁, hq, .of_steps (.one step_scope) harr⟩
  | outgrown => exact ⟨_, a₁, w₁, hq, .of_steps (.one step_scope) harr⟩
variable {Q : APost} {c : Code} {t : List AV} {st : List TK}
def gotoA (I : Nat → Nat → List AV → List TK → Prop) (n : Option Nat) (Q : APost) : APost
  | .goto l, t, st => ∃ m, I l m t st ∧ ∀ n', n = some n' → m < n'
  | e, t, st => Q e t st
theorem AW.labels (B : Nat → Code) (ok : Nat → Prop) (I : Nat → Nat → List AV → List TK → Prop) (hok : ∀ l m t st, I l m t st → ok l) (hf : ∀ l, ok l → findLabel c l = some (.seq .skip (B l)))
    (pass : ∀ n, (∀ m, m < n → ∀ l t st, I l m t st → ∀ q, (∀ n', q = some n' → m ≤ n') → AW P (B l) (gotoA I q Q) t st) → ∀ l t st, I l n t st → AW P (B l) (gotoA I (some n) Q) t st)
    (first : (∀ l m t st, I l m t st → AW P (B l) (gotoA I none Q) t st) → AW P c (gotoA I none Q) t st) : AW P (.scope c) Q t st := by
  have weak : ∀ {cc : Code} {n : Nat} {q : Option Nat} {t st}, (∀ n', q = some n' → n ≤ n') → AW P cc (gotoA I (some n) Q) t st → AW P cc (gotoA I q Q) t st := fun {cc n q t st} hq h => h.mono fun e t st hh => by
    cases e with
    | goto l => obtain ⟨m, h1, h2⟩ := hh; exact ⟨m, h1, fun n' hn => Nat.lt_of_lt_of_le (h2 n rfl) (hq n' hn)⟩
    | _ => exact hh
  have all : ∀ n l t st, I l n t st → AW P (B l) (gotoA I (some n) Q) t st := by
    intro n
    induction n using Nat.strongRecOn with
    | _ n ih => exact pass n fun m hm l t st hI q hq => weak hq (ih m hm l t st hI)
  have fst := first fun l m t st hI => weak (fun n' h => by cases h) (all m l t st hI)
  intro F ρ w0 w a hs hm
  let p (l : Nat) (a' : Act) (w' : World) (n : Nat) : Prop := ∃ ρ t st, St F ρ st w0 w' ∧ Fm F ρ st w' a' t ∧ I l n t st
  refine wp_scope_all (fun l => .seq .skip (B l)) ok (fun l a' w' => ∃ n, p l a' w' n) (fun l a' w' => leastN (p l a' w')) hf ?_ fun l a' w' hl hI => ?_
  · refine wp_mono (fst F ρ w0 w a hs hm) fun e a2 w2 ⟨ρ2, t2, st2, g1, g2, g3⟩ => ?_
    cases e with
    | goto l' => obtain ⟨m, h1, _⟩ := g3; exact ⟨hok _ _ _ _ h1, m, ρ2, t2, st2, g1, g2, h1⟩
    | _ => exact ⟨ρ2, t2, st2, g1, g2, g3⟩
  obtain ⟨⟨ρ1, t1, st1, h1, h2, h3⟩, _⟩ := leastN_spec hI
  refine wp_seq (wp_skip ?_); refine wp_mono (all _ l t1 st1 h3 F ρ1 w0 w' a' h1 h2) fun e a2 w2 ⟨ρ2, t2, st2, g1, g2, g3⟩ => ?_
  cases e with
  | goto l' =>
    obtain ⟨m, h4, h5⟩ := g3
    have hp : p l' a2 w2 m := ⟨ρ2, t2, st2, g1, g2, h4⟩
    exact ⟨hok _ _ _ _ h4, ⟨m, hp⟩, Nat.lt_of_le_of_lt ((leastN_spec ⟨m, hp⟩).2 m hp) (h5 _ rfl)⟩
  | _ => exact ⟨ρ2, t2, st2, g1, g2, g3⟩
def LabI {ι : Type} (t : List AV) (st : List TK) (scr : List Nat) (up : ι → List (Nat × AV)) (tscr : List Nat) (tup : ι → List (Nat × TK)) (J : ι → Prop) (μ : ι → Nat) (n : Nat) (t' : List AV) (st' : List TK) : Prop :=
  ∃ k, J k ∧ μ k = n ∧ Wk t' (upds (anys t scr) (up k)) ∧ Sk tscr 0 st' (upds st (tup k))
theorem AW.labI {ι : Type} {scr : List Nat} {up : ι → List (Nat × AV)} {tscr : List Nat} {tup : ι → List (Nat × TK)} {J : ι → Prop} {μ : ι → Nat} {n : Nat} {t' : List AV} {st' : List TK} (hI : LabI t st scr up tscr tup J μ n t' st')
    (h : ∀ k gs, J k → μ k = n → AW P c Q (upds (anys t scr) (up k)) (Go.Proofs.Ytlapcfnmmpbeeaa.offs gs (upds st (tup k)) tscr)) : AW P c Q t' st' := by
  obtain ⟨k, hJ, hk, hw, hs⟩ := hI
  obtain ⟨h1, h2⟩ := hs.get
  let gs : Nat → Nat := fun j => ((st'[j]?).map TK.g).getD 0
  refine AW.wk hw (AW.offs tscr gs (fun j tk hj => by simp [gs, hj]) ?_)
  have e : Go.Proofs.Ytlapcfnmmpbeeaa.offs gs st' tscr = Go.Proofs.Ytlapcfnmmpbeeaa.offs gs (upds st (tup k)) tscr := by
    apply List.ext_getElem?
    intro j; rw [(offs_get gs tscr st' j).2, (offs_get gs tscr _ j).2, h1]
    rcases h2 j with h3 | h3
    · rw [Nat.zero_add] at h3
      by_cases hj : j < (upds st (tup k)).length
      · simp only [h3, hj, and_self, if_true]
      simp only [h3, hj, and_false, if_false]
      rw [List.getElem?_eq_none (by omega), List.getElem?_eq_none (by omega)]
    rw [h3]
  rw [e]
  exact h k gs hJ hk
structure Lab where
  ι : Type
  scr : List Nat
  up : ι → List (Nat × AV)
  tscr : List Nat
  tup : ι → List (Nat × TK)
  J : ι → Prop
  μ : ι → Nat
def labB (c : Code) (l : Nat) : Code := match findLabel c l with | some (.seq _ b) => b | _ => .skip
def LabsI (t : List AV) (st : List TK) (Ls : List (Nat × Lab)) (l n : Nat) (t' : List AV) (st' : List TK) : Prop := ∃ L, (l, L) ∈ Ls ∧ LabI t st L.scr L.up L.tscr L.tup L.J L.μ n t' st'
inductive AllL (p : Nat → Lab → Prop) : List (Nat × Lab) → Prop
  | nil : AllL p []
  | cons {l L xs} (h : p l L) (t : AllL p xs) : AllL p ((l, L) :: xs)
theorem AllL.get {p : Nat → Lab → Prop} {xs} (h : AllL p xs) {l L} (hm : (l, L) ∈ xs) : p l L := by
  induction h with
  | nil => cases hm
  | cons h1 h2 ih =>
    cases hm with
    | head => exact h1
    | tail _ h => exact ih h
theorem gotoI {Ls : List (Nat × Lab)} {q : Option Nat} {l : Nat} {L : Lab} {t' : List AV} {st' : List TK} (hl : (l, L) ∈ Ls) (k : L.ι) (hJ : L.J k) (hm : ∀ n', q = some n' → L.μ k < n') (hw : Wk t' (upds (anys t L.scr) (L.up k))) (hs : Sk L.tscr 0 st' (upds st (L.tup k))) : gotoA (LabsI t st Ls) q Q (.goto l) t' st' :=
  ⟨L.μ k, ⟨L, hl, k, hJ, rfl, hw, hs⟩, hm⟩
theorem AW.scopeL (Ls : List (Nat × Lab)) (hf : AllL (fun l _ => findLabel c l = some (.seq .skip (labB c l))) Ls)
    (pass : AllL (fun l L => ∀ (k : L.ι) gs, L.J k → (∀ l' L', (l', L') ∈ Ls → ∀ k' : L'.ι, L'.J k' → L'.μ k' < L.μ k → ∀ t' st', Wk t' (upds (anys t L'.scr) (L'.up k')) → Sk L'.tscr 0 st' (upds st (L'.tup k')) → AW P (labB c l') (gotoA (LabsI t st Ls) (some (L.μ k)) Q) t' st') →
      AW P (labB c l) (gotoA (LabsI t st Ls) (some (L.μ k)) Q) (upds (anys t L.scr) (L.up k)) (Go.Proofs.Ytlapcfnmmpbeeaa.offs gs (upds st (L.tup k)) L.tscr)) Ls)
    (first : (∀ l' L', (l', L') ∈ Ls → ∀ k' : L'.ι, L'.J k' → ∀ t' st', Wk t' (upds (anys t L'.scr) (L'.up k')) → Sk L'.tscr 0 st' (upds st (L'.tup k')) → AW P (labB c l') (gotoA (LabsI t st Ls) none Q) t' st') → AW P c (gotoA (LabsI t st Ls) none Q) t st) : AW P (.scope c) Q t st := by
  refine AW.labels (labB c) (fun l => ∃ L, (l, L) ∈ Ls) (LabsI t st Ls) (fun l m t st ⟨L, h, _⟩ => ⟨L, h⟩) (fun l ⟨L, h⟩ => hf.get h) ?_ ?_
  · rintro n ih l t' st' ⟨L, hL, hI⟩; refine AW.labI hI fun k gs hJ hk => ?_; subst hk; exact pass.get hL k gs hJ fun l' L' hL' k' hJ' hlt t2 st2 hw hs => ih _ hlt l' t2 st2 ⟨L', hL', k', hJ', rfl, hw, hs⟩ _ fun n' e => by cases e; exact Nat.le_of_lt hlt
  intro H; exact first fun l' L' hL' k' hJ' t2 st2 hw hs => H l' _ t2 st2 ⟨L', hL', k', hJ', rfl, hw, hs⟩
theorem thenA_goto {l : Nat} {R : List AV → List TK → Prop} (h : Q (.goto l) t st) : thenA R Q (.goto l) t st := h
theorem inBlockA_goto {l id : Nat} (h : Q (.goto l) t st) : inBlockA id Q (.goto l) t st := h
theorem setA_own {k g el sz : Nat} {xs : List (List AV)} (hk : st[k]? = some ⟨g, .own el sz xs⟩) : setA st (.ow k g) = some (.sl xs) := by simp [setA, set1, set0, nz, hk]
end
section
variable {P : Program} {K : List AV → List TK → Prop} {o : Oper} {l : List Oper} {t : List AV} {st : List TK} {Q : APost} {x y : Operand} {z : AV} {zs : List AV} {kx : Nat}
def ADX (kx : Nat) (P : Program) (l : List Oper) (K : List AV → List TK → Prop) (fuel : Nat) (listed : Array Bool) (t : List AV) (st : List TK) : Prop :=
  ∀ F ρ w0 w a, St F ρ st w0 w → Fm F ρ st w a t → ∀ Q : Exit → Act → World → Prop, (∀ ρ' t' st' w' a', St F ρ' st' w0 w' → Fm F ρ' st' w' a' t' → K t' st' → Q .normal a' w') → RB P l.toArray Q (some (ρ kx).1) fuel listed a w
def ARdX (kx : Nat) (P : Program) (o : Oper) (t : List AV) (st : List TK) (x : AV) : Prop :=
  ∀ F ρ w0 w a, St F ρ st w0 w → Fm F ρ st w a t → ∃ v, Rep F ρ st w v x ∧ ∀ w', w.grownBy w' (some (ρ kx).1) → (execOp a.eval o).run P w' = .ok (.value v) w'
theorem AW.drawX {id : Nat} (kx : Nat) (hp : P.follows .mixedOrders = true) (h : ADX kx P l (fun t st => Q .normal t st) l.length (Array.replicate l.length false) t st) : AW P (.region id l.toArray true) Q t st := fun F ρ w0 w a hs hm =>
  rb_startg (some (ρ kx).1) hp (h F ρ w0 w.drew a (hs.grow (Below.refl _ _).drew) (hm.mv (Mv.below (Below.refl _ _).drew)) _ fun ρ' t' st' _ _ h1 h2 h3 => ⟨ρ', t', st', h1, h2, h3⟩)
theorem ADX.take {fuel : Nat} {listed : Array Bool} {xx : AV} (i : Nat) (hi : l[i]? = some o) (hs : Region.noSelect l.toArray = true) (hf : Region.free .any l.toArray listed i = true) (hr : (Region.ready .any l.toArray listed).contains i = true) (hw : WantA l.toArray o t true) (h : ARdX kx P o t st xx)
    (hk : ADX kx P l K fuel (listed.setIfInBounds i true) (putA t o.dst xx) st) : ADX kx P l K (fuel + 1) listed t st := fun F ρ w0 w a hs' hm Q hq => by
  obtain ⟨v, h1, h2⟩ := h F ρ w0 w a hs' hm
  exact rb_takeg i hi hs hf hr (hw.run hm) h2 (hk F ρ w0 w _ hs' (hm.put _ h1) Q hq)
theorem ADX.done {fuel : Nat} {listed : Array Bool} (hr : Region.ready .any l.toArray listed = []) (h : K t st) : ADX kx P l K fuel listed t st := fun _ ρ _ w a hs hm _ hq => rb_done hr (hq ρ t st w a hs hm h)
theorem rdX_faddr_bx {s f off k g off0 : Nat} {tc : TC} (ho : o.op = .fieldAddr s x f) (hT : fOff P s f = some off) (hx : evA t x = .bx k g off0) (hk : st[k]? = some ⟨g, tc⟩) (hb : ∃ ty cs, tc = .box ty cs) : ARdX kx P o t st (.bx k g (off0 + off)) := fun F ρ w0 w a hs hm => by
  obtain ⟨ty, cs, rfl⟩ := hb
  have h := hm.ev x
  rw [hx] at h
  have hv := h.bx_inv hk
  refine ⟨.pointer (some ⟨(ρ k).1, off0 + off, none⟩), .bx k g _ ty cs hk, fun w' _ => ?_⟩; simp only [execOp, ho, hv, Sem.run_bind, run_fieldAt hT, Result.andThen_ok, Sem.run_pure, Addr.add_mid]
theorem St.far {F : Nat → Prop} {ρ : Loc} {w0 : Bs} {w w' : World} (hs : St F ρ st w0 w) {k g g' : Nat} {ty ty' : TypeId} {cs cs' : List AV} (hk : st[k]? = some ⟨g, .box ty cs⟩) (hx : st[kx]? = some ⟨g', .box ty' cs'⟩) (hne : k ≠ kx) (hg : w.grownBy w' (some (ρ kx).1)) (off : Nat) : w'.cell? ⟨(ρ k).1, off, none⟩ = w.cell? ⟨(ρ k).1, off, none⟩ :=
  hg.cell_far ⟨(ρ k).1, off, none⟩ (hs.geB k _ hk trivial).2 fun e => hne (hs.injB k _ kx _ hk trivial hx trivial (by simpa using e))
theorem rdX_load_bx {ty bt : TypeId} {k g off g' : Nat} {ty' : TypeId} {cs cs' : List AV} (ho : o.op = .load ty x) (hT : agN P ty = some none) (hx : evA t x = .bx k g off) (hk : st[k]? = some ⟨g, .box bt cs⟩) (hc : cs[off]? = some z) (hkx : st[kx]? = some ⟨g', .box ty' cs'⟩ := by rfl) (hne : k ≠ kx := by decide) : ARdX kx P o t st z := fun F ρ w0 w a hs hm => by
  have h := hm.ev x
  rw [hx] at h
  have hv := h.bx_inv hk
  obtain ⟨vs, h1, h2, h3, h4⟩ := hs.box k g bt cs hk
  have hlt : off < vs.size := by rw [h2]; exact (List.getElem?_eq_some_iff.1 hc).1
  have hvo := Array.getElem?_eq_getElem hlt
  refine ⟨_, h4 off _ z hvo hc, fun w' hb => ?_⟩
  have hcell : w'.cell? ⟨(ρ k).1, off, none⟩ = some vs[off] := by
    rw [hs.far hk hkx hne hb, cell_of_row _ _ _ _ _ _ h1, hvo]
  simp only [execOp, ho, hv, Sem.run_bind, run_load1 hT hcell, Result.andThen_ok, Sem.run_pure]
theorem rdX_loadN_bx {ty bt : TypeId} {k g off n g' : Nat} {ty' : TypeId} {cs cs' : List AV} (ho : o.op = .load ty x) (hT : agN P ty = some (some n)) (hx : evA t x = .bx k g off) (hk : st[k]? = some ⟨g, .box bt cs⟩) (hc : off + n ≤ cs.length) (hz : (cs.drop off).take n = zs) (hkx : st[kx]? = some ⟨g', .box ty' cs'⟩ := by rfl) (hne : k ≠ kx := by decide) : ARdX kx P o t st (.ag zs) := fun F ρ w0 w a hs hm => by
  have h := hm.ev x
  rw [hx] at h
  have hv := h.bx_inv hk
  obtain ⟨vs, h1, h2, h3, h4⟩ := hs.box k g bt cs hk
  refine ⟨.agg ((vs.toList.drop off).take n).toArray, .ag _ _ ?_ ?_ ?_, fun w' hb => ?_⟩
  · rw [← hz]; simp; omega
  · intro v hv
    have : v ∈ vs.toList := List.mem_of_mem_drop (List.mem_of_mem_take (by simpa using hv))
    exact h3 v (by simpa using this)
  · intro j v x hv hx; rw [← hz] at hx; simp only [List.getElem?_toArray, List.getElem?_take, List.getElem?_drop] at hv hx
    split at hv
    · rename_i hj
      rw [if_pos hj] at hx
      exact h4 (off + j) v x (by simpa using hv) hx
    cases hv
  have := run_loadN (P := P) hT (b := (ρ k).1) (o := off) (w := w') (cs := (vs.toList.drop off).take n) (by simp; omega) (fun j v hv => by
    rw [hs.far hk hkx hne hb, cell_of_row _ _ _ _ _ _ h1]
    simp only [List.getElem?_take, List.getElem?_drop] at hv
    split at hv
    · simpa using hv
    cases hv)
  simp only [execOp, ho, hv, Sem.run_bind, this, Result.andThen_ok, Sem.run_pure]
theorem ADX.store {fuel : Nat} {listed : Array Bool} {ty bt : TypeId} {g off : Nat} {cs : List AV} (i : Nat) (hi : l[i]? = some o) (hr : Region.ready .any l.toArray listed = [i]) (hw : WantA l.toArray o t true)
    (ho : o.op = .store ty x y) (hx : evA t x = .bx kx g off) (hk : st[kx]? = some ⟨g, .box bt cs⟩) (hy : evA t y = z) (hz : z.cells? = some zs) (hl : liveA st z = true) (hT : szT P ty = some zs.length) (hle : off + zs.length ≤ cs.length)
    (h : ADX kx P l K fuel (listed.setIfInBounds i true) (putA t o.dst (.sc undef)) (st.set kx ⟨g, .box bt (splA cs off zs)⟩)) : ADX kx P l K (fuel + 1) listed t st := fun F ρ w0 w a hs hm Q hq => by
  have hp := hm.ev x
  rw [hx] at hp
  have hv := hp.bx_inv hk
  have hr' := hm.ev y
  rw [hy] at hr'
  obtain ⟨h1, h2, h3⟩ := hr'.cells hz (fun k g e => live_ow (by rw [← e]; exact hl)) (fun k g o e => live_bx (by rw [← e]; exact hl))
  obtain ⟨vs, g1, g2, g3, g4⟩ := hs.box kx g bt cs hk
  obtain ⟨hs', hmv⟩ := hs.store (off := off) (zs := zs) (us := (a.eval y).cells.toList) hk (by simpa using h1) (fun u hu => h2 u (by simpa using hu)) (fun j u x hu hx => h3 j u x (by simpa using hu) hx)
  have hth : w.there (ρ kx).1 off (a.eval y).cells.size := fun j hj => by
    have hlt : off + j < vs.size := by rw [g2]; omega
    refine ⟨?_, ?_⟩
    · rw [cell_of_row _ _ _ _ _ _ g1, Array.getElem?_eq_getElem hlt]; rfl
    simp [World.frozen?, g1]
  have hst : (storeVar ty ⟨(ρ kx).1, off, none⟩ (a.eval y)).run P w = .ok () (w.setCells (ρ kx).1 off (a.eval y).cells.toList) :=
    run_storeVar_mid w (ρ kx).1 off ty (a.eval y).cells hth (by unfold szT at hT; rw [hT, h1]) (by rw [Array.all_eq_true_iff_forall_mem]; exact h2)
  have hrun : (execOp a.eval o).run P w = .ok .skip (w.setCells (ρ kx).1 off (a.eval y).cells.toList) := by
    simp only [execOp, ho, hv, Instr.storeAt, Instr.sureAddr, Sem.run_bind, Sem.run_pure, Result.andThen_ok, hst]
  refine rb_moveg i hi hr (hw.run hm) fun k hk => ?_
  unfold Oper.wp
  rw [hrun]
  exact hk _ _ (grown_setCells _ _ _ _) (h F ρ w0 _ _ hs' ((hm.mv hmv).put _ (.sc _)) Q hq)
theorem ADX.n {fuel : Nat} {listed : Array Bool} {t' : List AV} {st' : List TK} (h : ADX kx P l K fuel listed t' st') (ht : t = t' := by (try simp only [putA, evA, List.getD_cons_zero, List.getD_cons_succ, List.set_cons_zero, List.set_cons_succ, List.length_map, KR, splA, List.map_cons, List.map_nil, List.length_append, List.length_cons, List.length_nil, List.drop_zero, csS_len, csS_take, csS_drop, csS_app, byA_len, byA_take, byA_drop, byA_app, ← List.map_take, ← List.map_drop, ← List.map_append, List.take_succ_cons, List.take_zero, List.drop_succ_cons, List.drop_zero, List.cons_append, List.nil_append, Nat.zero_add, Nat.reduceAdd]); (try rfl)) (hs : st = st' := by (try simp only [putA, evA, List.getD_cons_zero, List.getD_cons_succ, List.set_cons_zero, List.set_cons_succ, List.length_map, KR, splA, List.map_cons, List.map_nil, List.length_append, List.length_cons, List.length_nil, List.drop_zero, csS_len, csS_take, csS_drop, csS_app, byA_len, byA_take, byA_drop, byA_app, ← List.map_take, ← List.map_drop, ← List.map_append, List.take_succ_cons, List.take_zero, List.drop_succ_cons, List.drop_zero, List.cons_append, List.nil_append, Nat.zero_add, Nat.reduceAdd]); (try rfl)) : ADX kx P l K fuel listed t st := by subst ht hs; exact h
theorem AL.b {ops : Array Oper} {t' : List AV} {st' : List TK} (h : AL P ops K l t' st') (ht : t = t' := by (try simp only [putA, evA, List.getD_cons_zero, List.getD_cons_succ, List.set_cons_zero, List.set_cons_succ, List.length_map, KR, splA, List.map_cons, List.map_nil, List.length_append, List.length_cons, List.length_nil, List.drop_zero, csS_len, csS_take, csS_drop, csS_app, byA_len, byA_take, byA_drop, byA_app, ← List.map_take, ← List.map_drop, ← List.map_append, List.take_succ_cons, List.take_zero, List.drop_succ_cons, List.drop_zero, List.cons_append, List.nil_append, Nat.zero_add, Nat.reduceAdd]); (try rfl)) (hs : st = st' := by (try simp only [putA, evA, List.getD_cons_zero, List.getD_cons_succ, List.set_cons_zero, List.set_cons_succ, List.length_map, KR, splA, List.map_cons, List.map_nil, List.length_append, List.length_cons, List.length_nil, List.drop_zero, csS_len, csS_take, csS_drop, csS_app, byA_len, byA_take, byA_drop, byA_app, ← List.map_take, ← List.map_drop, ← List.map_append, List.take_succ_cons, List.take_zero, List.drop_succ_cons, List.drop_zero, List.cons_append, List.nil_append, Nat.zero_add, Nat.reduceAdd]); (try rfl)) : AL P ops K l t st := by subst ht hs; exact h
theorem ADX.r {o : Oper} {x : AV} {t' : List AV} {fuel : Nat} {listed : Array Bool} (i : Nat) (hi : l[i]? = some o) (h : ARdX kx P o t st x) (hw : WantA l.toArray o t true) (hk : ADX kx P l K fuel (listed.setIfInBounds i true) t' st) (ht : putA t o.dst x = t' := by (try simp only [Nat.zero_add, Nat.reduceAdd, List.take_succ_cons, List.take_zero, List.drop_succ_cons, putA, evA, List.getD_cons_zero, List.getD_cons_succ, List.set_cons_zero, List.set_cons_succ, List.length_map, KR, splA, List.map_cons, List.map_nil, List.length_append, List.length_cons, List.length_nil, List.drop_zero, csS_len, csS_take, csS_drop, csS_app, byA_len, byA_take, byA_drop, byA_app, ← List.map_take, ← List.map_drop, ← List.map_append]); (try rfl)) (hs : Region.noSelect l.toArray = true := by kernel_rfl) (hf : Region.free .any l.toArray listed i = true := by kernel_rfl) (hr : (Region.ready .any l.toArray listed).contains i = true := by kernel_rfl) : ADX kx P l K (fuel + 1) listed t st := by subst ht; exact ADX.take i hi hs hf hr hw h hk
end
def ren0 (ks : List Nat) : AV → AV
  | .ow k g => .ow (ks.getD k 0) g
  | .bx k g o => .bx (ks.getD k 0) g o
  | x => x
def ren1 (ks : List Nat) : AV → AV
  | .ag cs => .ag (cs.map (ren0 ks))
  | x => ren0 ks x
def ren2 (ks : List Nat) : AV → AV
  | .tu vs => .tu (vs.map (ren1 ks))
  | x => ren1 ks x
def renC (ks : List Nat) : TC → TC
  | .box ty cs => .box ty (cs.map (ren0 ks))
  | c => c
def renT (ks : List Nat) (tk : TK) : TK := ⟨tk.g, renC ks tk.c⟩
theorem ren_isB {ks : List Nat} {c : TC} : (renC ks c).isB = c.isB := by cases c <;> rfl
theorem ren_foot {ks : List Nat} {ρ ρ' : Loc} {k i b : Nat} {c : TC} (h : ρ' k = ρ i) : foot ρ' k (renC ks c) b ↔ foot ρ i c b := by cases c <;> simp only [foot, renC, h]
def okC (os : List TK) : AV → Bool
  | .ow k g => liveA os (.ow k g)
  | .bx k g o => liveA os (.bx k g o)
  | .sc _ => true
  | .sl _ => true
  | .any => true
  | _ => false
def ok1 (os : List TK) : AV → Bool
  | .ag cs => cs.all (okC os)
  | x => okC os x
def ok2 (os : List TK) : AV → Bool
  | .tu vs => vs.all (ok1 os)
  | x => ok1 os x
def cleanT (os : List TK) (tk : TK) : Bool := match tk.c with
  | .box _ cs => cs.all (okC os)
  | _ => true
def cleanS (os : List TK) : Bool := os.all (cleanT os)
theorem clean_box {os : List TK} {k g : Nat} {ty : TypeId} {cs : List AV} {j : Nat} {x : AV} (h : cleanS os = true) (hk : os[k]? = some ⟨g, .box ty cs⟩) (hx : cs[j]? = some x) : okC os x = true := by
  unfold cleanS at h
  rw [List.all_eq_true] at h
  have h1 := h _ (List.mem_of_getElem? hk)
  unfold cleanT at h1
  simp only [List.all_eq_true] at h1
  exact h1 _ (List.mem_of_getElem? hx)
structure Sub (ks : List Nat) (ρ : Loc) (os : List TK) (ρ' : Loc) (st : List TK) : Prop where
  tk : ∀ (i : Nat) (tk : TK), os[i]? = some tk → ∃ k, ks[i]? = some k ∧ st[k]? = some (renT ks tk) ∧ ρ' k = ρ i
section
variable {F F' : Nat → Prop} {ρ ρ' : Loc} {os st : List TK} {ks : List Nat} {w : World} {v : Value} {x : AV}
theorem live_ow' {os : List TK} {k g : Nat} (h : liveA os (.ow k g) = true) : (∃ el sz xs, os[k]? = some ⟨g, .own el sz xs⟩) ∨ ∃ el sz, os[k]? = some ⟨g, .nown el sz⟩ := by
  obtain ⟨c, h1, h2⟩ := live_tk (p := TC.isO) h
  cases c with
  | own el sz xs => exact .inl ⟨el, sz, xs, h1⟩
  | nown el sz => exact .inr ⟨el, sz, h1⟩
  | _ => cases h2
theorem live_bx' {os : List TK} {k g o : Nat} (h : liveA os (.bx k g o) = true) : ∃ c, os[k]? = some ⟨g, c⟩ ∧ c.isB = true := live_tk (p := TC.isB) h
theorem back0 (hS : Sub ks ρ os ρ' st) (hf : ∀ b, Free F' ρ' st b → Free F ρ os b) (hx : okC os x = true) (h : Rep F' ρ' st w v (ren0 ks x)) : Rep F ρ os w v x := by
  cases x with
  | sc u => cases (show Rep F' ρ' st w v (.sc u) from h) with | s h => cases h; exact .sc _
  | sl xs => exact .s ((show Rep F' ρ' st w v (.sl xs) from h).sl_s.mono fun b _ hb => hf b hb)
  | any => exact .any v
  | ow k g =>
    rcases live_ow' (by simpa [okC] using hx) with ⟨el, sz, xs, hk⟩ | ⟨el, sz, hk⟩
    · obtain ⟨k', h1, h2, h3⟩ := hS.tk k _ hk
      have e : ks.getD k 0 = k' := by rw [List.getD_eq_getElem?_getD, h1]; rfl
      have h' : Rep F' ρ' st w v (.ow k' g) := by rw [← e]; exact h
      rw [h'.ow_inv h2, h3]
      exact .ow k g el sz xs hk
    obtain ⟨k', h1, h2, h3⟩ := hS.tk k _ hk
    have e : ks.getD k 0 = k' := by rw [List.getD_eq_getElem?_getD, h1]; rfl
    have h' : Rep F' ρ' st w v (.ow k' g) := by rw [← e]; exact h
    rw [h'.ow0_inv h2]
    exact .ow0 k g el sz hk
  | bx k g o =>
    obtain ⟨c, hk, hc⟩ := live_bx' (by simpa [okC] using hx)
    obtain ⟨k', h1, h2, h3⟩ := hS.tk k _ hk
    have e : ks.getD k 0 = k' := by rw [List.getD_eq_getElem?_getD, h1]; rfl
    have h' : Rep F' ρ' st w v (.bx k' g o) := by rw [← e]; exact h
    rw [h'.bx_invB h2 (ren_isB.trans hc), h3]
    exact .ptr hk rfl hc
  | _ => simp [okC] at hx
theorem on0 (hS : Sub ks ρ os ρ' st) (hf : ∀ b, Free F ρ os b → Free F' ρ' st b) (hx : okC os x = true) (h : Rep F ρ os w v x) : Rep F' ρ' st w v (ren0 ks x) := by
  cases x with
  | sc u => cases h with | s h => cases h; exact .sc _
  | sl xs => exact .s (h.sl_s.mono fun b _ hb => hf b hb)
  | any => exact .any v
  | ow k g =>
    rcases live_ow' (by simpa [okC] using hx) with ⟨el, sz, xs, hk⟩ | ⟨el, sz, hk⟩
    · obtain ⟨k', h1, h2, h3⟩ := hS.tk k _ hk
      have e : ks.getD k 0 = k' := by rw [List.getD_eq_getElem?_getD, h1]; rfl
      rw [h.ow_inv hk, ← h3]
      show Rep F' ρ' st w _ (.ow (ks.getD k 0) g)
      rw [e]
      exact .ow k' g el sz xs h2
    obtain ⟨k', h1, h2, h3⟩ := hS.tk k _ hk
    have e : ks.getD k 0 = k' := by rw [List.getD_eq_getElem?_getD, h1]; rfl
    rw [h.ow0_inv hk]
    show Rep F' ρ' st w _ (.ow (ks.getD k 0) g)
    rw [e]
    exact .ow0 k' g el sz h2
  | bx k g o =>
    obtain ⟨c, hk, hc⟩ := live_bx' (by simpa [okC] using hx)
    obtain ⟨k', h1, h2, h3⟩ := hS.tk k _ hk
    have e : ks.getD k 0 = k' := by rw [List.getD_eq_getElem?_getD, h1]; rfl
    rw [h.bx_invB hk hc, ← h3]
    show Rep F' ρ' st w _ (.bx (ks.getD k 0) g o)
    rw [e]
    exact .ptr h2 rfl (ren_isB.trans hc)
  | _ => simp [okC] at hx
theorem Rep.ag_inv {F : Nat → Prop} {ρ : Loc} {st : List TK} {cs : List AV} (h : Rep F ρ st w v (.ag cs)) : ∃ vs : Array Value, v = .agg vs ∧ vs.size = cs.length ∧ (∀ v ∈ vs, v.oneCell' = true) ∧ ∀ (j : Nat) v x, vs[j]? = some v → cs[j]? = some x → Rep F ρ st w v x := by
  cases h with
  | s h => cases h with | ag vs _ hs h1 hr => exact ⟨vs, rfl, hs, h1, fun j v x a b => .s (hr j v x a b)⟩
  | ag vs _ hs h1 hr => exact ⟨vs, rfl, hs, h1, hr⟩
theorem Rep.tu_inv {F : Nat → Prop} {ρ : Loc} {st : List TK} {cs : List AV} (h : Rep F ρ st w v (.tu cs)) : ∃ vs : Array Value, v = .tuple vs ∧ vs.size = cs.length ∧ ∀ (j : Nat) v x, vs[j]? = some v → cs[j]? = some x → Rep F ρ st w v x := by
  cases h with
  | s h => cases h with | tu vs _ hs hr => exact ⟨vs, rfl, hs, fun j v x a b => .s (hr j v x a b)⟩
  | tu vs _ hs hr => exact ⟨vs, rfl, hs, hr⟩
theorem on1 (hS : Sub ks ρ os ρ' st) (hf : ∀ b, Free F ρ os b → Free F' ρ' st b) (hx : ok1 os x = true) (h : Rep F ρ os w v x) : Rep F' ρ' st w v (ren1 ks x) := by
  cases x with
  | ag cs =>
    obtain ⟨vs, rfl, h1, h2, h3⟩ := h.ag_inv
    have hx' : ∀ y ∈ cs, okC os y = true := by simpa [ok1] using hx
    refine .ag vs _ (by simpa using h1) h2 fun j v y hv hy => ?_; rw [List.getElem?_map] at hy
    cases hc : cs[j]? with
    | none => rw [hc] at hy; cases hy
    | some z =>
      rw [hc] at hy
      injection hy with hy
      subst hy
      exact on0 hS hf (hx' z (List.mem_of_getElem? hc)) (h3 j v z hv hc)
  | _ => refine on0 hS hf ?_ h; exact hx
theorem on2 (hS : Sub ks ρ os ρ' st) (hf : ∀ b, Free F ρ os b → Free F' ρ' st b) (hx : ok2 os x = true) (h : Rep F ρ os w v x) : Rep F' ρ' st w v (ren2 ks x) := by
  cases x with
  | tu cs =>
    obtain ⟨vs, rfl, h1, h3⟩ := h.tu_inv
    have hx' : ∀ y ∈ cs, ok1 os y = true := by simpa [ok2] using hx
    refine .tu vs _ (by simpa using h1) fun j v y hv hy => ?_; rw [List.getElem?_map] at hy
    cases hc : cs[j]? with
    | none => rw [hc] at hy; cases hy
    | some z =>
      rw [hc] at hy
      injection hy with hy
      subst hy
      exact on1 hS hf (hx' z (List.mem_of_getElem? hc)) (h3 j v z hv hc)
  | _ => refine on1 hS hf ?_ h; exact hx
theorem back1 (hS : Sub ks ρ os ρ' st) (hf : ∀ b, Free F' ρ' st b → Free F ρ os b) (hx : ok1 os x = true) (h : Rep F' ρ' st w v (ren1 ks x)) : Rep F ρ os w v x := by
  cases x with
  | ag cs =>
    obtain ⟨vs, rfl, h1, h2, h3⟩ := Rep.ag_inv (show Rep F' ρ' st w v (.ag (cs.map (ren0 ks))) from h)
    have hx' : ∀ y ∈ cs, okC os y = true := by simpa [ok1] using hx
    refine .ag vs _ (by simpa using h1) h2 fun j v y hv hy => ?_; exact back0 hS hf (hx' y (List.mem_of_getElem? hy)) (h3 j v _ hv (by rw [List.getElem?_map, hy]; rfl))
  | _ => exact back0 hS hf hx h
end
def ACo (P : Program) (f : FuncId) (args : List AV) (os : List TK) (R : AV → List TK → Prop) : Prop := ∀ (F : Nat → Prop) (ρ : Loc) (w : World) (vs : Array Value), vs.size = args.length → St F ρ os ⟨w, ρ, os⟩ w → (∀ (j : Nat) v x, vs[j]? = some v → args[j]? = some x → Rep F ρ os w v x) →
  Calls P f vs w fun e w' => ∃ v y ρ' os', e = .returned v ∧ St F ρ' os' ⟨w, ρ, os⟩ w' ∧ os'.length = os.length ∧ cleanS os' = true ∧ ok2 os' y = true ∧ Rep F ρ' os' w' v y ∧ R y os'
def resO0 (n : Nat) (st : List TK) : AV → Option AV
  | .sc v => some (.sc v)
  | .sl xs => some (.sl xs)
  | .ow k g => if k < n then (if liveA st (.ow k g) then some (.ow k g) else none) else set0 st (.ow k g)
  | .bx k g o => if k < n then (if liveA st (.bx k g o) then some (.bx k g o) else none) else none
  | _ => none
def resOs (n : Nat) (st : List TK) : List AV → Option (List AV)
  | [] => some []
  | x :: xs => match resO0 n st (nz x), resOs n st xs with | some y, some ys => some (y :: ys) | _, _ => none
def resO1 (n : Nat) (st : List TK) : AV → Option AV
  | .ag cs => match resOs n st cs with | some ys => some (.ag ys) | none => none
  | x => resO0 n st (nz x)
section
variable {P : Program} {F : Nat → Prop} {ρ : Loc} {st : List TK} {w0 : Bs} {w : World} {v : Value} {x z y : AV} {n : Nat} {t : List AV} {a : Act} {fn : Func} {R : AV → List TK → Prop}
theorem take_get {k : Nat} {tk : TK} (h : (st.take n)[k]? = some tk) : st[k]? = some tk := by
  rw [List.getElem?_take] at h
  split at h
  · exact h
  cases h
theorem get_take {k : Nat} {tk : TK} (h : st[k]? = some tk) (hk : k < n) : (st.take n)[k]? = some tk := by rw [List.getElem?_take, if_pos hk]; exact h
theorem free_take {b : Nat} (h : Free F ρ st b) : Free F ρ (st.take n) b := ⟨h.1, fun k tk hk hb => h.2 k tk (take_get hk) hb⟩
theorem resO0_rep (hs : St F ρ st w0 w) (h : Rep F ρ st w v z) (hz : resO0 n st z = some y) : Rep F ρ (st.take n) w v y := by
  cases z with
  | sc u => simp [resO0] at hz; subst hz; cases h with | s h => exact .s (h.mono fun b _ hb => free_take hb)
  | sl xs => simp [resO0] at hz; subst hz; exact .s (h.sl_s.mono fun b _ hb => free_take hb)
  | ow k g =>
    simp only [resO0] at hz
    split at hz
    · rename_i hk
      split at hz
      · rename_i hl
        injection hz with hz
        subst hz
        rcases live_ow' hl with ⟨el, sz, xs, h1⟩ | ⟨el, sz, h1⟩
        · rw [h.ow_inv h1]; exact .ow k g el sz xs (get_take h1 hk)
        rw [h.ow0_inv h1]; exact .ow0 k g el sz (get_take h1 hk)
      cases hz
    rename_i hk
    simp only [set0] at hz
    cases hkk : st[k]? with
    | none => rw [hkk] at hz; cases hz
    | some tk =>
      obtain ⟨g', c⟩ := tk
      rw [hkk] at hz
      cases c with
      | own el sz xs =>
        simp at hz
        obtain ⟨rfl, rfl⟩ := hz
        rw [h.ow_inv hkk]
        obtain ⟨vs, h1, h2, h3, h4, h5⟩ := hs.own k _ el sz xs hkk
        have hge := hs.geB k _ hkk (by simp)
        refine .s (RepO.sl (base := 0) (el := el) ⟨vs, h1, h2, h3, h4, fun i j cs v x a b c => (h5 i j cs v x a b c).mono fun b _ hb => ⟨free_take hb, fun e => hb.ne k _ hkk (by simp) e.symm⟩⟩ ⟨hge.1.2, fun j tk hj hb => ?_⟩)
        have h6 := hs.inj j tk k _ _ (take_get hj) hb hkk rfl
        subst h6
        rw [List.getElem?_take, if_neg hk] at hj
        cases hj
      | nown el sz =>
        simp at hz
        obtain ⟨rfl, rfl⟩ := hz
        rw [h.ow0_inv hkk]
        exact .s (.sl0 _ _ (Nat.zero_le _))
      | _ => simp at hz
  | bx k g o =>
    simp only [resO0] at hz
    split at hz
    · rename_i hk
      split at hz
      · rename_i hl
        injection hz with hz
        subst hz
        obtain ⟨c, h1, hc⟩ := live_bx' hl
        rw [h.bx_invB h1 hc]
        exact .ptr (get_take h1 hk) rfl hc
      cases hz
    cases hz
  | _ => simp [resO0] at hz
theorem resOs_get : ∀ (cs ys : List AV), resOs n st cs = some ys → cs.length = ys.length ∧ ∀ (j : Nat) x y, cs[j]? = some x → ys[j]? = some y → resO0 n st (nz x) = some y
  | [], ys, h => by simp [resOs] at h; subst h; simp
  | x :: xs, ys, h => by
    simp only [resOs] at h
    cases h1 : resO0 n st (nz x) with
    | none => rw [h1] at h; cases h
    | some y =>
      cases h2 : resOs n st xs with
      | none => rw [h1, h2] at h; cases h
      | some ys' =>
        rw [h1, h2] at h
        injection h with h
        subst h
        obtain ⟨h3, h4⟩ := resOs_get xs ys' h2
        refine ⟨by simp [h3], fun j x' y' hx hy => ?_⟩
        cases j with
        | zero => simp at hx hy; subst hx hy; exact h1
        | succ j => exact h4 j x' y' (by simpa using hx) (by simpa using hy)
theorem resO1_rep (hs : St F ρ st w0 w) (h : Rep F ρ st w v z) (hz : resO1 n st z = some y) : Rep F ρ (st.take n) w v y := by
  cases z with
  | ag cs =>
    simp only [resO1] at hz
    cases h1 : resOs n st cs with
    | none => rw [h1] at hz; cases hz
    | some ys =>
      rw [h1] at hz
      injection hz with hz
      subst hz
      obtain ⟨h2, h3⟩ := resOs_get cs ys h1
      obtain ⟨vs, rfl, g1, g2, g3⟩ := h.ag_inv
      refine .ag vs ys (by omega) g2 fun j v y hv hy => ?_
      have hj : j < cs.length := by rw [h2]; exact (List.getElem?_eq_some_iff.1 hy).1
      exact resO0_rep hs (g3 j v _ hv (List.getElem?_eq_getElem hj)).nz (h3 j _ y (List.getElem?_eq_getElem hj) hy)
  | _ => exact resO0_rep hs h.nz (by simpa [resO1] using hz)
theorem okC_take {x : AV} (hx : okC (st.take n) x = true) (h : Rep F ρ st w v x) : Rep F ρ (st.take n) w v x := by
  cases x with
  | sc u => cases h with | s h => exact .s (h.mono fun b _ hb => free_take hb)
  | sl xs => exact .s (h.sl_s.mono fun b _ hb => free_take hb)
  | any => exact .any v
  | ow k g =>
    rcases live_ow' (by simpa [okC] using hx) with ⟨el, sz, xs, hk⟩ | ⟨el, sz, hk⟩
    · rw [h.ow_inv (take_get hk)]; exact .ow k g el sz xs hk
    rw [h.ow0_inv (take_get hk)]; exact .ow0 k g el sz hk
  | bx k g o =>
    obtain ⟨c, hk, hc⟩ := live_bx' (by simpa [okC] using hx)
    rw [h.bx_invB (take_get hk) hc]
    exact .ptr hk rfl hc
  | _ => simp [okC] at hx
theorem St.take (hs : St F ρ st w0 w) (hn : w0.os.length ≤ n) (hc : cleanS (st.take n) = true) : St F ρ (st.take n) w0 w where
  below := hs.below
  fresh := hs.fresh
  box k g ty cs hk := by
    obtain ⟨vs, h1, h2, h3, h4⟩ := hs.box k g ty cs (take_get hk)
    exact ⟨vs, h1, h2, h3, fun j v x hv hx => okC_take (clean_box hc hk hx) (h4 j v x hv hx)⟩
  own k g el sz xs hk := by
    obtain ⟨vs, h1, h2, h3, h4, h5⟩ := hs.own k g el sz xs (take_get hk)
    exact ⟨vs, h1, h2, h3, h4, fun i j cs v x a b c => (h5 i j cs v x a b c).mono fun b _ hb => free_take hb⟩
  obj k g p hk := p.stab (hs.obj k g p (take_get hk)) (Nat.le_refl _) (fun b hb => free_take (hs.free_new hb)) (fun b o hf ho => ⟨free_take hf, ho⟩) (fun _ _ => rfl)
  ge k tk b hk hb := hs.ge k tk b (take_get hk) hb
  inj k tk k' tk' b hk hb hk' hb' := hs.inj k tk k' tk' b (take_get hk) hb (take_get hk') hb'
  hist k tk0 h := by
    obtain ⟨tk, h1, h2⟩ := hs.hist k tk0 h
    exact ⟨tk, get_take h1 (Nat.lt_of_lt_of_le (List.getElem?_eq_some_iff.1 h).1 hn), h2⟩
def ResO (P : Program) (fn : Func) (n : Nat) (R : AV → List TK → Prop) (t : List AV) (st : List TK) : Prop := n ≤ st.length ∧ cleanS (st.take n) = true ∧ ∀ F ρ w0 w a, St F ρ st w0 w → Fm F ρ st w a t → ∃ v y, (results fn a.tmps).run P w = .ok v w ∧ Rep F ρ (st.take n) w v y ∧ ok2 (st.take n) y = true ∧ R y (st.take n)
def retO (P : Program) (fn : Func) (n : Nat) (R : AV → List TK → Prop) : APost
  | .ret, t, st => ResO P fn n R t st
  | .normal, t, st => ResO P fn n R t st
  | _, _, _ => False
theorem reso0 (hr : fn.results = #[]) (hn : n ≤ st.length) (hc : cleanS (st.take n) = true) (h : R (.tu []) (st.take n)) : ResO P fn n R t st := ⟨hn, hc, fun F ρ w0 w a hs hm => by
  refine ⟨.tuple #[], .tu [], ?_, .s (RepS.tu #[] [] rfl (by simp)), rfl, h⟩; rw [res_eq, hr]; simp [Sem.run_bind]⟩
theorem reso1 {r1 : ResultVar} (hr : fn.results = #[r1]) (hn : n ≤ st.length) (hc : cleanS (st.take n) = true) (h1 : ResV P t st r1 z) (hz : resO1 n st z = some y) (hok : ok2 (st.take n) y = true) (h : R y (st.take n)) : ResO P fn n R t st := ⟨hn, hc, fun F ρ w0 w a hs hm => by
  obtain ⟨v, g1, g2⟩ := h1.run hs hm
  refine ⟨v, y, ?_, resO1_rep hs g2 hz, hok, h⟩; rw [res_eq, hr]; simp [Sem.run_bind, g1]⟩
theorem ACo.of {f : FuncId} {c : Code} {args t0 : List AV} {os st0 : List TK} (nt : Nat) (hf : P.funcs[f]? = some fn) (hb : fn.body = some c) (ht : args ++ List.replicate (fn.ntmps - args.length) (AV.sc undef) = t0) (hst : os ++ List.replicate nt (TK.mk 0 .off) = st0) (n : Nat) (hn : os.length = n) (h : AW P c (retO P fn n R) t0 st0) : ACo P f args os R := fun F ρ w vs hsz hs0 hr => by
  subst ht hst hn
  refine calls_of_wp hf hb ?_
  have get : ∀ (k : Nat) (tk : TK), (os ++ List.replicate nt (TK.mk 0 .off))[k]? = some tk → tk.c ≠ .off → os[k]? = some tk := fun k tk hk hne => by
    rcases Nat.lt_or_ge k os.length with h1 | h1
    · rwa [List.getElem?_append_left h1] at hk
    rw [List.getElem?_append_right h1] at hk
    have := List.eq_of_mem_replicate (List.mem_of_getElem? hk)
    rw [this] at hne
    exact absurd rfl hne
  have hne : ∀ {k b : Nat} (tk : TK), foot ρ k tk.c b → tk.c ≠ .off := fun tk hb e => by rw [e] at hb; exact hb
  have hmv : Mv F ρ os w ρ (os ++ List.replicate nt (TK.mk 0 .off)) w := ⟨fun b o hf ho => ⟨⟨hf.1, fun k tk hk hb => hf.2 k tk (get k tk hk (hne tk hb)) hb⟩, ho⟩, fun k tk hk => ⟨tk, by rw [List.getElem?_append_left (List.getElem?_eq_some_iff.1 hk).1]; exact hk, .inl ⟨rfl, rfl⟩⟩⟩
  have hs : St F ρ (os ++ List.replicate nt (TK.mk 0 .off)) ⟨w, ρ, os⟩ w :=
    { below := hs0.below, fresh := hs0.fresh
      box := fun k g ty cs hk => by
        obtain ⟨vs, h1, h2, h3, h4⟩ := hs0.box k g ty cs (get k _ hk (by simp))
        exact ⟨vs, h1, h2, h3, fun j v x hv hx => (h4 j v x hv hx).mv hmv⟩
      own := fun k g el sz xs hk => by
        obtain ⟨vs, h1, h2, h3, h4, h5⟩ := hs0.own k g el sz xs (get k _ hk (by simp))
        exact ⟨vs, h1, h2, h3, h4, fun i j cs v x a b c => (h5 i j cs v x a b c).mv hmv.free⟩
      obj := fun k g p hk => p.stab (hs0.obj k g p (get k _ hk (by simp))) (Nat.le_refl _) (fun b hb => ⟨hs0.fresh b hb, fun j tk hj hf => by have := (hs0.ge j tk b (get j tk hj (hne tk hf)) hf).2; omega⟩) hmv.free (fun _ _ => rfl)
      ge := fun k tk b hk hb => hs0.ge k tk b (get k tk hk (hne tk hb)) hb
      inj := fun k tk k' tk' b hk hb hk' hb' => hs0.inj k tk k' tk' b (get k tk hk (hne tk hb)) hb (get k' tk' hk' (hne tk' hb')) hb'
      hist := hist_mv hs0.hist hmv }
  have hm : Fm F ρ (os ++ List.replicate nt (TK.mk 0 .off)) w { tmps := vs ++ Array.replicate (fn.ntmps - vs.size) undef, defers := [] } (args ++ List.replicate (fn.ntmps - args.length) (.sc undef)) := by
    refine ⟨rfl, by simp [hsz], fun i v x hv hx => ?_⟩; simp only [] at hv
    rcases Nat.lt_or_ge i vs.size with hi | hi
    · rw [Array.getElem?_append_left hi] at hv
      rw [List.getElem?_append_left (by omega)] at hx
      exact (hr i v x hv hx).mv hmv
    rw [Array.getElem?_append_right hi] at hv
    rw [List.getElem?_append_right (by omega)] at hx
    have h1 := List.eq_of_mem_replicate (List.mem_of_getElem? hx)
    have h2 : v = undef := by
      have := Array.mem_of_getElem? hv
      exact (Array.eq_of_mem_replicate this)
    subst h1 h2
    exact .sc _
  refine wp_mono (h F _ _ w _ hs hm) fun e a' w' ⟨ρ', t', st', h1, h2, h3⟩ => ?_
  have fin : ResO P fn os.length R t' st' → ∃ v, (results fn a'.tmps).run P w' = .ok v w' ∧ ∃ v' y ρ'' os', Ending.returned v = .returned v' ∧ St F ρ'' os' ⟨w, ρ, os⟩ w' ∧ os'.length = os.length ∧ cleanS os' = true ∧ ok2 os' y = true ∧ Rep F ρ'' os' w' v' y ∧ R y os' := fun ⟨hn, hc, h4⟩ => by
    obtain ⟨v, y, g1, g2, g3, g4⟩ := h4 F ρ' _ w' a' h1 h2
    exact ⟨v, g1, v, y, ρ', _, rfl, h1.take (Nat.le_refl _) hc, by simp; omega, hc, g3, g2, g4⟩
  cases e with
  | ret => obtain ⟨v, g1, g2⟩ := fin h3; exact ⟨h2.defers, v, g1, g2⟩
  | normal => obtain ⟨v, g1, g2⟩ := fin h3; exact ⟨h2.defers, v, g1, g2⟩
  | _ => exact h3.elim
end
def putT (KS : List Nat) : List TK → List Nat → List TK → List TK
  | st, k :: ks, tk :: os => putT KS (st.set k (renT KS tk)) ks os
  | st, _, _ => st
def subT (st : List TK) : List Nat → List TK → Prop
  | k :: ks, tk :: os => st[k]? = some tk ∧ subT st ks os
  | [], [] => True
  | _, _ => False
theorem subT_get {st : List TK} : ∀ (ks : List Nat) (os : List TK), subT st ks os → ks.length = os.length ∧ ∀ (i : Nat) (tk : TK), os[i]? = some tk → ∃ k, ks[i]? = some k ∧ st[k]? = some tk
  | [], [], _ => by simp
  | k :: ks, tk :: os, h => by
    obtain ⟨h1, h2⟩ := h
    obtain ⟨h3, h4⟩ := subT_get ks os h2
    refine ⟨by simp [h3], fun i tk' hi => ?_⟩
    cases i with
    | zero => simp at hi; subst hi; exact ⟨k, rfl, h1⟩
    | succ i => obtain ⟨k', h5, h6⟩ := h4 i tk' (by simpa using hi); exact ⟨k', by simpa using h5, h6⟩
  | [], _ :: _, h => h.elim
  | _ :: _, [], h => h.elim
theorem putT_get (KS : List Nat) : ∀ (ks : List Nat) (os st : List TK), ks.length = os.length → ks.Nodup → (∀ k ∈ ks, k < st.length) → (∀ (i : Nat) (tk : TK), os[i]? = some tk → ∃ k, ks[i]? = some k ∧ (putT KS st ks os)[k]? = some (renT KS tk)) ∧ ∀ k, k ∉ ks → (putT KS st ks os)[k]? = st[k]?
  | [], os, st, hl, _, _ => by
    have : os = [] := List.eq_nil_of_length_eq_zero (by simpa using hl.symm)
    subst this
    simp [putT]
  | k :: ks, [], st, hl, _, _ => by simp at hl
  | k :: ks, tk :: os, st, hl, hn, hlt => by
    obtain ⟨hn1, hn2⟩ := List.nodup_cons.1 hn
    obtain ⟨h1, h2⟩ := putT_get KS ks os (st.set k (renT KS tk)) (by simpa using hl) hn2 (fun j hj => by simpa using hlt j (List.mem_cons_of_mem _ hj))
    refine ⟨fun i tk' hi => ?_, fun j hj => ?_⟩
    · cases i with
      | zero =>
        simp at hi
        subst hi
        exact ⟨k, rfl, by rw [putT, h2 k hn1, List.getElem?_set_self (hlt k List.mem_cons_self)]⟩
      | succ i =>
        obtain ⟨k', h5, h6⟩ := h1 i tk' (by simpa using hi)
        exact ⟨k', by simpa using h5, h6⟩
    have hj1 : j ≠ k := fun e => hj (e ▸ List.mem_cons_self)
    have hj2 : j ∉ ks := fun e => hj (List.mem_cons_of_mem _ e)
    rw [putT, h2 j hj2, List.getElem?_set_ne (fun e => hj1 e.symm)]
theorem idx_inj {ks : List Nat} (hn : ks.Nodup) {i j k : Nat} (hi : ks[i]? = some k) (hj : ks[j]? = some k) : i = j :=
  (List.getElem?_inj (List.getElem?_eq_some_iff.1 hi).1 hn).1 (hi.trans hj.symm)
theorem TkR.ren {ks : List Nat} {a b : TK} {l m : Nat × Nat} (h : TkR a l b m) : TkR (renT ks a) l (renT ks b) m := by
  rcases h with ⟨rfl, rfl⟩ | h | ⟨h1, h2⟩ | ⟨h1, h2, h3, h4⟩
  · exact .inl ⟨rfl, rfl⟩
  · exact .inr (.inl h)
  · exact .inr (.inr (.inl ⟨h1, by simp [renT, renC, h2]⟩))
  exact .inr (.inr (.inr ⟨h1, h2, ren_isB.trans h3, ren_isB.trans h4⟩))
def nzA : AV → AV
  | .ag cs => .ag (cs.map nz)
  | x => nz x
theorem Rep.nzA {F : Nat → Prop} {ρ : Loc} {st : List TK} {w : World} {v : Value} {x : AV} (h : Rep F ρ st w v x) : Rep F ρ st w v (Go.Proofs.Ytlapcfnmmpbeeaa.nzA x) := by
  cases x with
  | ag cs =>
    obtain ⟨vs, rfl, h1, h2, h3⟩ := h.ag_inv
    refine .ag vs _ (by simpa using h1) h2 fun j v y hv hy => ?_; rw [List.getElem?_map] at hy
    cases hc : cs[j]? with
    | none => rw [hc] at hy; cases hy
    | some z =>
      rw [hc] at hy
      injection hy with hy
      subst hy
      exact (h3 j v z hv hc).nz
  | _ => exact h.nz
section
variable {P : Program} {o : Oper} {t : List AV} {st : List TK}
def Ent (P : Program) (o : Oper) (t : List AV) (st : List TK) (f : FuncId) (ys : List AV) : Prop := ∀ F ρ w0 w a, St F ρ st w0 w → Fm F ρ st w a t → ∃ vs : Array Value, (execOp a.eval o).run P w = .ok (.enter f vs) w ∧ vs.size = ys.length ∧ ∀ (j : Nat) v y, vs[j]? = some v → ys[j]? = some y → Rep F ρ st w v y
theorem ent_call {f : FuncId} {xs : Array Operand} {Ts : Array TypeId} (ho : o.op = .call { callee := .value (.func f), args := xs, argTypes := Ts }) (hok : callOk P f = true) : Ent P o t st f (xs.toList.map (evA t)) := fun F ρ w0 w a hs hm => by
  refine ⟨_, run_call ho hok, by simp, fun j v y hv hy => ?_⟩; rw [Array.getElem?_map] at hv; rw [List.getElem?_map, Array.getElem?_toList] at hy
  cases hx : xs[j]? with
  | none => rw [hx] at hv; cases hv
  | some x =>
    rw [hx] at hv hy
    injection hv with hv
    injection hy with hy
    subst hv hy
    exact hm.ev x
theorem ent_fv {f : FuncId} {xs : Array Operand} {Ts : Array TypeId} {x : Operand} (ho : o.op = .call { callee := .value x, args := xs, argTypes := Ts }) (hx : evV t x = some (.func (.func f) #[] #[])) (hok : callOk P f = true) : Ent P o t st f (xs.toList.map (evA t)) := fun F ρ w0 w a hs hm => by
  refine ⟨xs.map a.eval, ?_, by simp, fun j v y hv hy => ?_⟩
  · unfold callOk at hok
    cases hf : P.funcs[f]? with
    | none => rw [hf] at hok; cases hok
    | some fn =>
      rw [hf] at hok
      cases hb : fn.body with
      | none => simp [hb] at hok
      | some b =>
        simp [hb] at hok
        simp only [execOp, ho, resolve, Deferred.ofValue, hm.val hx, Sem.run_bind, Sem.run_pure, Result.andThen_ok, invoke, callFunc, Array.empty_append, Array.append_empty]
        simp [hf, hok, hb]
  rw [Array.getElem?_map] at hv
  rw [List.getElem?_map, Array.getElem?_toList] at hy
  cases hx : xs[j]? with
  | none => rw [hx] at hv; cases hv
  | some x =>
    rw [hx] at hv hy
    injection hv with hv
    injection hy with hy
    subst hv hy
    exact hm.ev x
open Classical in
theorem op_enter {K : AV → List TK → Prop} {f : FuncId} {us ys : List AV} {os : List TK} {R : AV → List TK → Prop} (hC : ACo P f ys os R) (hE : Ent P o t st f us) (ks : List Nat) (hnd : ks.Nodup) (hsub : subT st ks (os.map (renT ks)))
    (hargs : us.map nzA = ys.map (ren1 ks)) (hoa : ys.all (ok1 os) = true) (hcl : cleanS os = true) (h : ∀ y os', R y os' → K (ren2 ks y) (putT ks st ks os')) : AOp P o t st K := fun F ρ w0 w a hs hm next Q hn => by
  unfold Oper.wp
  obtain ⟨us', hrun, husz, hus⟩ := hE F ρ w0 w a hs hm
  rw [hrun]
  obtain ⟨hlen, hget⟩ := subT_get _ _ hsub
  have hlen' : ks.length = os.length := by simpa using hlen
  obtain ⟨F', hF'⟩ : ∃ F' : Nat → Prop, F' = fun b => F b ∧ ∀ k tk, st[k]? = some tk → k ∉ ks → ¬ foot ρ k tk.c b := ⟨_, rfl⟩
  obtain ⟨ρx, hρx⟩ : ∃ ρx : Loc, ∀ i k, ks[i]? = some k → ρx i = ρ k := ⟨fun i => ρ (ks.getD i 0), fun i k hk => by simp [hk]⟩
  have hS : Sub ks ρx os ρ st := ⟨fun i tk hi => by
    obtain ⟨k, h1, h2⟩ := hget i (renT ks tk) (by rw [List.getElem?_map, hi]; rfl)
    exact ⟨k, h1, h2, (hρx i k h1).symm⟩⟩
  have hf1 : ∀ b, Free F ρ st b → Free F' ρx os b := fun b hb => ⟨by rw [hF']; exact ⟨hb.1, fun k tk hk _ hbk => hb.2 k tk hk hbk⟩, fun i tk hi hbk => by
    obtain ⟨k, h1, h2, h3⟩ := hS.tk i tk hi
    exact hb.2 k _ h2 ((ren_foot h3).2 hbk)⟩
  have hs1 : St F' ρx os ⟨w, ρx, os⟩ w :=
    { below := Bel.refl ⟨w, ρx, os⟩
      fresh := fun b hb => by rw [hF']; exact ⟨hs.fresh b hb, fun k tk hk _ hbk => by have := (hs.ge k tk b hk hbk).2; omega⟩
      box := fun i g ty cs hi => by
        obtain ⟨k, h1, h2, h3⟩ := hS.tk i _ hi
        obtain ⟨vs, g1, g2, g3, g4⟩ := hs.box k g ty (cs.map (ren0 ks)) h2
        rw [h3] at g1
        exact ⟨vs, g1, by simpa using g2, g3, fun j v x hv hx => back0 hS hf1 (clean_box hcl hi hx) (g4 j v _ hv (by rw [List.getElem?_map, hx]; rfl))⟩
      own := fun i g el sz xs hi => by
        obtain ⟨k, h1, h2, h3⟩ := hS.tk i _ hi
        obtain ⟨vs, g1, g2, g3, g4, g5⟩ := hs.own k g el sz xs h2
        rw [h3] at g1
        exact ⟨vs, g1, g2, g3, g4, fun i j cs v x a b c => (g5 i j cs v x a b c).mono fun b _ hb => hf1 b hb⟩
      obj := fun i g p hi => by
        obtain ⟨k, h1, h2, h3⟩ := hS.tk i _ hi
        have h4 := hs.obj k g p h2
        have e : foot ρ k (.obj p) = foot ρx i (.obj p) := by funext b; simp only [foot, h3]
        rw [h3, e] at h4
        exact p.stab h4 (Nat.le_refl _) (fun b hb => hf1 b (hs.free_new hb)) (fun b o hf ho => ⟨hf1 b hf, ho⟩) (fun _ _ => rfl)
      ge := fun i tk b hi hb => by
        obtain ⟨k, h1, h2, h3⟩ := hS.tk i tk hi
        have h4 := hs.ge k _ b h2 ((ren_foot h3).2 hb)
        refine ⟨⟨.inr ⟨i, tk, hi, hb⟩, ?_⟩, h4.2⟩; rw [hF']; exact ⟨h4.1.2, fun k' tk' hk' hnk hb' => hnk (by rw [hs.inj k' tk' k _ b hk' hb' h2 ((ren_foot h3).2 hb)]; exact List.mem_of_getElem? h1)⟩
      inj := fun i tk i' tk' b hi hb hi' hb' => by
        obtain ⟨k, h1, h2, h3⟩ := hS.tk i tk hi
        obtain ⟨k', h1', h2', h3'⟩ := hS.tk i' tk' hi'
        obtain rfl := hs.inj k _ k' _ b h2 ((ren_foot h3).2 hb) h2' ((ren_foot h3').2 hb')
        exact idx_inj hnd h1 h1'
      hist := fun k tk0 h => ⟨tk0, h, .inl ⟨rfl, rfl⟩⟩ }
  have hoa' : ∀ y ∈ ys, ok1 os y = true := by simpa using hoa
  have hsz : us'.size = ys.length := by
    have := congrArg List.length hargs
    rw [List.length_map, List.length_map] at this
    omega
  have hrep : ∀ (j : Nat) v x, us'[j]? = some v → ys[j]? = some x → Rep F' ρx os w v x := fun j v y hv hy => by
    have hj : j < us.length := by rw [← husz]; exact (Array.getElem?_eq_some_iff.1 hv).1
    have h1 : (us.map nzA)[j]? = some (nzA us[j]) := by rw [List.getElem?_map, List.getElem?_eq_getElem hj]; rfl
    rw [hargs, List.getElem?_map, hy] at h1
    injection h1 with h1
    refine back1 hS hf1 (hoa' y (List.mem_of_getElem? hy)) ?_; rw [h1]; exact (hus j v us[j] hv (List.getElem?_eq_getElem hj)).nzA
  refine Calls.mono (hC F' ρx w us' hsz hs1 hrep) fun e w' ⟨v, y, ρ1, os', he, hs2, hl2, hc2, hok2, hr2, hR⟩ => ?_; subst he
  have hklt : ∀ k ∈ ks, k < st.length := fun k hk => by
    obtain ⟨i, hi, rfl⟩ := List.getElem_of_mem hk
    obtain ⟨k', h1, h2, _⟩ := hS.tk i (os[i]'(by omega)) (List.getElem?_eq_getElem _)
    rw [List.getElem?_eq_getElem hi] at h1
    injection h1 with h1
    rw [h1]
    exact (List.getElem?_eq_some_iff.1 h2).1
  obtain ⟨hp1, hp2⟩ := putT_get ks ks os' st (by omega) hnd hklt
  obtain ⟨ρ2, hr1, hr3⟩ : ∃ ρ2 : Loc, (∀ i k, ks[i]? = some k → ρ2 k = ρ1 i) ∧ ∀ k, k ∉ ks → ρ2 k = ρ k := by
    refine ⟨fun k => if h : ∃ i, ks[i]? = some k then ρ1 (Classical.choose h) else ρ k, fun i k hk => ?_, fun k hk => ?_⟩
    · have hex : ∃ i, ks[i]? = some k := ⟨i, hk⟩
      simp only [dif_pos hex]
      rw [idx_inj hnd (Classical.choose_spec hex) hk]
    have hex : ¬ ∃ i, ks[i]? = some k := fun ⟨i, hi⟩ => hk (List.mem_of_getElem? hi)
    simp only [dif_neg hex]
  have hS2 : Sub ks ρ1 os' ρ2 (putT ks st ks os') := ⟨fun i tk hi => by
    obtain ⟨k, h1, h2⟩ := hp1 i tk hi
    exact ⟨k, h1, h2, hr1 i k h1⟩⟩
  have hin : ∀ k, k ∈ ks → ∃ i tk tk0, ks[i]? = some k ∧ os'[i]? = some tk ∧ (putT ks st ks os')[k]? = some (renT ks tk) ∧ ρ2 k = ρ1 i ∧ os[i]? = some tk0 ∧ st[k]? = some (renT ks tk0) ∧ ρ k = ρx i := fun k hk => by
    obtain ⟨i, hi, rfl⟩ := List.getElem_of_mem hk
    have hki : ks[i]? = some ks[i] := List.getElem?_eq_getElem hi
    have h0 : os'[i]? = some (os'[i]'(by omega)) := List.getElem?_eq_getElem _
    have h00 : os[i]? = some (os[i]'(by omega)) := List.getElem?_eq_getElem _
    obtain ⟨k', h1, h2, h3⟩ := hS2.tk i _ h0
    obtain ⟨k2, g1, g2, g3⟩ := hS.tk i _ h00
    rw [hki] at h1 g1
    injection h1 with h1
    injection g1 with g1
    subst h1 g1
    exact ⟨i, _, _, hki, h0, h2, h3, h00, g2, g3⟩
  have hFb : ∀ b, F' b → F b ∧ ∀ k tk, st[k]? = some tk → k ∉ ks → ¬ foot ρ k tk.c b := fun b hb => by rw [hF'] at hb; exact hb
  have hf2 : ∀ b, Free F' ρ1 os' b → Free F ρ2 (putT ks st ks os') b := fun b hb => ⟨(hFb b hb.1).1, fun k tk hk hbk => by
    by_cases hkk : k ∈ ks
    · obtain ⟨i, tk', tk0, h1, h2, h3, h4, _⟩ := hin k hkk
      rw [hk] at h3
      injection h3 with h3
      subst h3
      exact hb.2 i tk' h2 ((ren_foot h4).1 hbk)
    rw [hp2 k hkk] at hk
    exact (hFb b hb.1).2 k tk hk hkk ((foot_loc (hr3 k hkk)).1 hbk)⟩
  have hM : ∀ b, (⟨w, ρx, os⟩ : Bs).M b → ∃ k tk, k ∈ ks ∧ st[k]? = some tk ∧ foot ρ k tk.c b := fun b ⟨i, tk, h1, h2⟩ => by
    obtain ⟨k, g1, g2, g3⟩ := hS.tk i tk h1
    exact ⟨k, _, List.mem_of_getElem? g1, g2, (ren_foot g3).2 h2⟩
  have hkeep : ∀ b, b < w.heap.size → (∀ k tk, k ∈ ks → st[k]? = some tk → ¬ foot ρ k tk.c b) → w'.heap[b]? = w.heap[b]? := fun b hb hne => hs2.below.block b hb fun hm' => by
    obtain ⟨k, tk, h1, h2, h3⟩ := hM b hm'
    exact hne k tk h1 h2 h3
  have hmv : Mv F ρ st w ρ2 (putT ks st ks os') w' := by
    refine ⟨fun b ob hf ho => ⟨⟨hf.1, fun k tk hk hbk => ?_⟩, (hkeep b (Array.getElem?_eq_some_iff.1 ho).1 fun k tk _ hk hbk => hf.2 k tk hk hbk).trans ho⟩, fun k tk hk => ?_⟩
    · have hblt := (Array.getElem?_eq_some_iff.1 ho).1
      by_cases hkk : k ∈ ks
      · obtain ⟨i, tk', tk0, h1, h2, h3, h4, _⟩ := hin k hkk
        rw [hk] at h3
        injection h3 with h3
        subst h3
        rcases (hs2.ge i tk' b h2 ((ren_foot h4).1 hbk)).1.1 with h5 | h5
        · simp only [] at h5
          omega
        obtain ⟨k2, tk2, g1, g2, g3⟩ := hM _ h5
        exact hf.2 k2 tk2 g2 g3
      rw [hp2 k hkk] at hk
      exact hf.2 k tk hk ((foot_loc (hr3 k hkk)).1 hbk)
    by_cases hkk : k ∈ ks
    · obtain ⟨i, tk', tk0, h1, h2, h3, h4, h5, h6, h7⟩ := hin k hkk
      obtain ⟨tk2, g1, g2⟩ := hs2.hist i tk0 h5
      rw [h2] at g1
      injection g1 with g1
      subst g1
      rw [hk] at h6
      injection h6 with h6
      subst h6
      refine ⟨_, h3, ?_⟩; rw [h4, h7]; exact TkR.ren g2
    exact ⟨tk, by rw [hp2 k hkk]; exact hk, .inl ⟨rfl, hr3 k hkk⟩⟩
  have hs3 : St F ρ2 (putT ks st ks os') w0 w' :=
    { below := ⟨hs2.below.os.trans hs.below.os, hs2.below.tape.trans hs.below.tape, hs2.below.output.trans hs.below.output, Nat.le_trans hs.below.size hs2.below.size, fun b hb hM' => (hkeep b (Nat.lt_of_lt_of_le hb hs.below.size) fun k tk _ hk hbk => by
        rcases (hs.ge k tk b hk hbk).1.1 with h1 | h1
        · omega
        exact hM' h1).trans (hs.below.block b hb hM')⟩
      fresh := fun b hb => (hFb b (hs2.fresh b hb)).1
      box := fun k g ty cs hk => by
        by_cases hkk : k ∈ ks
        · obtain ⟨i, tk', tk0, h1, h2, h3, h4, _⟩ := hin k hkk
          rw [hk] at h3
          injection h3 with h3
          obtain ⟨g', c'⟩ := tk'
          cases c' with
          | box ty' cs' =>
            simp only [renT, renC] at h3
            injection h3 with e1 e2
            injection e2 with e3 e4
            subst e1 e3 e4
            obtain ⟨vs, g1, g2, g3, g4⟩ := hs2.box i _ _ cs' h2
            rw [h4]
            refine ⟨vs, g1, by simpa using g2, g3, fun j v x hv hx => ?_⟩; rw [List.getElem?_map] at hx
            cases hc : cs'[j]? with
            | none => rw [hc] at hx; cases hx
            | some z =>
              rw [hc] at hx
              injection hx with hx
              subst hx
              exact on0 hS2 hf2 (clean_box hc2 h2 hc) (g4 j v z hv hc)
          | _ => simp only [renT, renC] at h3; injection h3 with _ e2; cases e2
        rw [hp2 k hkk] at hk
        rw [hr3 k hkk]
        obtain ⟨vs, g1, g2, g3, g4⟩ := hs.box k g ty cs hk
        exact ⟨vs, (hkeep _ (Array.getElem?_eq_some_iff.1 g1).1 fun k' tk' hk1 hk2 hb' => hkk (hs.inj k' tk' k _ _ hk2 hb' hk rfl ▸ hk1)).trans g1, g2, g3, fun j v x hv hx => (g4 j v x hv hx).mv hmv⟩
      own := fun k g el sz xs hk => by
        by_cases hkk : k ∈ ks
        · obtain ⟨i, tk', tk0, h1, h2, h3, h4, _⟩ := hin k hkk
          rw [hk] at h3
          injection h3 with h3
          obtain ⟨g', c'⟩ := tk'
          cases c' with
          | own el' sz' xs' =>
            simp only [renT, renC] at h3
            injection h3 with e1 e2
            injection e2 with e3 e4 e5
            subst e1 e3 e4 e5
            obtain ⟨vs, g1, g2, g3, g4, g5⟩ := hs2.own i _ _ _ _ h2
            rw [h4]
            exact ⟨vs, g1, g2, g3, g4, fun i j cs v x a b c => (g5 i j cs v x a b c).mono fun b _ hb => hf2 b hb⟩
          | _ => simp only [renT, renC] at h3; injection h3 with _ e2; cases e2
        rw [hp2 k hkk] at hk
        rw [hr3 k hkk]
        obtain ⟨vs, g1, g2, g3, g4, g5⟩ := hs.own k g el sz xs hk
        exact ⟨vs, own_keep' g1 fun g' hg => by injection hg with hg; subst hg; exact hkeep _ (hs.geB k _ hk (by simp)).2 fun k' tk' hk1 hk2 hb' => hkk (hs.inj k' tk' k _ _ hk2 hb' hk rfl ▸ hk1), g2, g3, g4, fun i j cs v x a b c => (g5 i j cs v x a b c).mv hmv.free⟩
      obj := fun k g p hk => by
        by_cases hkk : k ∈ ks
        · obtain ⟨i, tk', tk0, h1, h2, h3, h4, _⟩ := hin k hkk
          rw [hk] at h3
          injection h3 with h3
          obtain ⟨g', c'⟩ := tk'
          cases c' with
          | obj p' =>
            simp only [renT, renC] at h3
            injection h3 with e1 e2
            injection e2 with e3
            subst e1 e3
            have h5 := hs2.obj i _ p h2
            have e : foot ρ2 k (.obj p) = foot ρ1 i (.obj p) := by funext b; simp only [foot, h4]
            rw [h4, e]
            exact p.stab h5 (Nat.le_refl _) (fun b hb => hf2 b (hs2.free_new hb)) (fun b o hf ho => ⟨hf2 b hf, ho⟩) (fun _ _ => rfl)
          | _ => simp only [renT, renC] at h3; injection h3 with _ e2; cases e2
        have hk' := hk
        rw [hp2 k hkk] at hk
        have h5 := hs.obj k g p hk
        have e : foot ρ2 k (.obj p) = foot ρ k (.obj p) := by funext b; exact propext (foot_loc (hr3 k hkk))
        rw [hr3 k hkk, e]
        exact p.stab h5 hs2.below.size (fun b hb => hf2 b (hs2.free_new hb)) hmv.free (fun b hf => hkeep b (hs.ge k _ b hk hf).2 fun k' tk' hk1 hk2 hb' => hkk (hs.inj k' tk' k _ b hk2 hb' hk hf ▸ hk1))
      ge := fun k tk b hk hbk => by
        by_cases hkk : k ∈ ks
        · obtain ⟨i, tk', tk0, h1, h2, h3, h4, _⟩ := hin k hkk
          rw [hk] at h3
          injection h3 with h3
          subst h3
          have h5 := hs2.ge i tk' b h2 ((ren_foot h4).1 hbk)
          refine ⟨⟨?_, (hFb _ h5.1.2).1⟩, h5.2⟩
          rcases h5.1.1 with h6 | h6
          · exact .inl (Nat.le_trans hs.below.size h6)
          obtain ⟨k2, tk2, g1, g2, g3⟩ := hM _ h6
          exact (hs.ge k2 tk2 b g2 g3).1.1
        rw [hp2 k hkk] at hk
        have := hs.ge k tk b hk ((foot_loc (hr3 k hkk)).1 hbk)
        exact ⟨this.1, Nat.lt_of_lt_of_le this.2 hs2.below.size⟩
      inj := fun k tk k' tk' b hk hbk hk' hbk' => by
        by_cases hkk : k ∈ ks
        · obtain ⟨i, tk1, tk0, h1, h2, h3, h4, _⟩ := hin k hkk
          rw [hk] at h3
          injection h3 with h3
          subst h3
          by_cases hkk' : k' ∈ ks
          · obtain ⟨i', tk1', tk0', h1', h2', h3', h4', _⟩ := hin k' hkk'
            rw [hk'] at h3'
            injection h3' with h3'
            subst h3'
            obtain rfl := hs2.inj i tk1 i' tk1' b h2 ((ren_foot h4).1 hbk) h2' ((ren_foot h4').1 hbk')
            rw [h1] at h1'
            injection h1'
          rw [hp2 k' hkk'] at hk'
          exact absurd ((foot_loc (hr3 k' hkk')).1 hbk') ((hFb _ (hs2.ge i tk1 b h2 ((ren_foot h4).1 hbk)).1.2).2 k' tk' hk' hkk')
        rw [hp2 k hkk] at hk
        by_cases hkk' : k' ∈ ks
        · obtain ⟨i', tk1', tk0', h1', h2', h3', h4', _⟩ := hin k' hkk'
          rw [hk'] at h3'
          injection h3' with h3'
          subst h3'
          exact absurd ((foot_loc (hr3 k hkk)).1 hbk) ((hFb _ (hs2.ge i' tk1' b h2' ((ren_foot h4').1 hbk')).1.2).2 k tk hk hkk)
        rw [hp2 k' hkk'] at hk'
        exact hs.inj k tk k' tk' b hk ((foot_loc (hr3 k hkk)).1 hbk) hk' ((foot_loc (hr3 k' hkk')).1 hbk')
      hist := hist_mv hs.hist hmv }
  exact hn v w' ρ2 _ _ hs3 hmv (on2 hS2 hf2 hok2 hr2) (h y os' hR)
theorem op_callo {K : AV → List TK → Prop} {f : FuncId} {xs : Array Operand} {Ts : Array TypeId} {ys : List AV} {os : List TK} {R : AV → List TK → Prop} (hC : ACo P f ys os R) (ho : o.op = .call { callee := .value (.func f), args := xs, argTypes := Ts }) (hok : callOk P f = true) (ks : List Nat) (hnd : ks.Nodup) (hsub : subT st ks (os.map (renT ks)))
    (hargs : xs.toList.map (fun x => nzA (evA t x)) = ys.map (ren1 ks)) (hoa : ys.all (ok1 os) = true) (hcl : cleanS os = true) (h : ∀ y os', R y os' → K (ren2 ks y) (putT ks st ks os')) : AOp P o t st K :=
  op_enter hC (ent_call ho hok) ks hnd hsub (by rw [List.map_map]; exact hargs) hoa hcl h
end
section
variable {P : Program} {o : Oper} {t : List AV} {st : List TK} {x y s : Operand} {K : AV → List TK → Prop} {F : Nat → Prop} {ρ : Loc} {w0 : Bs} {w : World}
def isPt (P : Program) (t : TypeId) : Bool := match P.underlying t with | some (.pointer _) => true | _ => false
theorem pt_parts {xt : TypeId} (h : isPt P xt = true) : ∃ e, P.underlying xt = some (.pointer e) := by
  unfold isPt at h
  split at h
  · rename_i e hu; exact ⟨e, hu⟩
  cases h
theorem rd_nilc_bx {k g off : Nat} {c : TC} (ho : o.op = .nilCheck x) (hx : evA t x = .bx k g off) (hk : st[k]? = some ⟨g, c⟩) (hc : c.isB = true := by rfl) : ARd P o t st (.bx k g off) := fun F ρ w0 w a hs hm => by
  have h := hm.ev x
  rw [hx] at h
  have hv := h.bx_invB hk hc
  refine ⟨_, h, fun w' _ => ?_⟩; simp only [execOp, ho, hv]; rfl
theorem run_pnil {xt : TypeId} {e : TypeId} (hu : P.underlying xt = some (.pointer e)) (p : Option Addr) (w : World) : (Op.equal xt (.pointer p) (.pointer none)).run P w = .ok p.isNone w := by
  unfold Op.equal Op.maxDepth
  rw [show (10000 : Nat) = 9999 + 1 from rfl]
  unfold Op.equalIn
  simp only [Sem.run_bind, run_underlying hu, Result.andThen_ok]
  cases p <;> rfl
theorem rd_peq_bx {xt yt : TypeId} {k g off : Nat} {c : TC} (ho : o.op = .binOp .eql xt x y yt) (hT : isPt P xt = true) (hx : evA t x = .bx k g off) (hk : st[k]? = some ⟨g, c⟩) (hy : evV t y = some (.pointer none)) (hc : c.isB = true := by rfl) : ARd P o t st (.sc (.bool false)) := fun F ρ w0 w a hs hm => by
  obtain ⟨e, hu⟩ := pt_parts hT
  have h := hm.ev x
  rw [hx] at h
  have hv := h.bx_invB hk hc
  refine ⟨_, .sc _, fun w' _ => ?_⟩; simp [execOp, ho, hv, hm.val hy, eqGuard, binOp, Sem.run_bind, run_pnil hu]
theorem rd_pne_bx {xt yt : TypeId} {k g off : Nat} {c : TC} (ho : o.op = .binOp .neq xt x y yt) (hT : isPt P xt = true) (hx : evA t x = .bx k g off) (hk : st[k]? = some ⟨g, c⟩) (hy : evV t y = some (.pointer none)) (hc : c.isB = true := by rfl) : ARd P o t st (.sc (.bool true)) := fun F ρ w0 w a hs hm => by
  obtain ⟨e, hu⟩ := pt_parts hT
  have h := hm.ev x
  rw [hx] at h
  have hv := h.bx_invB hk hc
  refine ⟨_, .sc _, fun w' _ => ?_⟩; simp [execOp, ho, hv, hm.val hy, eqGuard, binOp, Sem.run_bind, run_pnil hu]
def arT (P : Program) (T : TypeId) : Option (Nat × TypeId × Nat) := match P.underlying T with | some (.array n e) => (P.info? e).map fun i => (n, e, i.size) | _ => none
theorem ar_parts {T n e sz : Nat} (h : arT P T = some (n, e, sz)) : P.underlying T = some (.array n e) ∧ ∃ i, P.info? e = some i ∧ i.size = sz := by
  unfold arT at h
  split at h
  · rename_i n' e' hu
    cases hi : P.info? e' with
    | none => rw [hi] at h; cases h
    | some i =>
      rw [hi] at h
      simp at h
      obtain ⟨rfl, rfl, rfl⟩ := h
      exact ⟨hu, i, hi, rfl⟩
  cases h
theorem rd_iaddr_bx {T n e sz k g off i bt : Nat} {ik : IntKind} {I : Int} {cs : List AV} (ho : o.op = .indexAddr T x y) (hT : arT P T = some (n, e, sz)) (hx : evA t x = .bx k g off) (hk : st[k]? = some ⟨g, .box bt cs⟩) (hy : evV t y = some (.int ik I)) (hI : I = (i : Int)) (hi : i < n) : ARd P o t st (.bx k g (off + i * sz)) := fun F ρ w0 w a hs hm => by
  obtain ⟨hu, inf, hi1, hi2⟩ := ar_parts hT
  subst hI
  have h := hm.ev x
  rw [hx] at h
  have hv := h.bx_inv hk
  refine ⟨.pointer (some ⟨(ρ k).1, off + i * sz, none⟩), .bx k g _ bt cs hk, fun w' _ => ?_⟩
  have hin : (i : Int) < n := by omega
  simp only [execOp, ho, Instr.indexAt, hv, hm.val hy, Sem.run_bind, asIntOf, Sem.run_pure, Result.andThen_ok, run_underlying hu, Instr.sureAddr]
  simp [hin, sizeOf, typeInfo, hi1, hi2, Addr.add_mid]
theorem rd_index_ag {T n e sz i : Nat} {ik : IntKind} {I : Int} {cs : List AV} {z : AV} (ho : o.op = .index T x y) (hT : arT P T = some (n, e, sz)) (hE : agN P e = some none) (hx : evA t x = .ag cs) (hy : evV t y = some (.int ik I)) (hI : I = (i : Int)) (hi : i < n) (hz : cs[i * sz]? = some z) : ARd P o t st z := fun F ρ w0 w a hs hm => by
  obtain ⟨hu, inf, hi1, hi2⟩ := ar_parts hT
  subst hI
  have h := hm.ev x
  rw [hx] at h
  obtain ⟨vs, hv, h1, h2, h3⟩ := h.ag_inv
  have hlt : i * sz < vs.size := by rw [h1]; exact (List.getElem?_eq_some_iff.1 hz).1
  have hvo := Array.getElem?_eq_getElem hlt
  refine ⟨_, h3 _ _ z hvo hz, fun w' _ => ?_⟩
  have hin : (i : Int) < n := by omega
  have hagg : (isAgg e).run P w' = .ok false w' := by
    unfold agN at hE
    unfold isAgg
    rw [Sem.run_bind]
    cases hu : P.underlying e with
    | none => rw [hu] at hE; cases hE
    | some d =>
      rw [run_underlying hu w']
      rw [hu] at hE
      cases d <;> simp_all
  simp only [execOp, ho, Instr.index, hv, hm.val hy, Sem.run_bind, asIntOf, Sem.run_pure, Result.andThen_ok, run_underlying hu]
  simp [hin, sizeOf, typeInfo, hi1, hi2, part, Sem.run_bind, hagg, hvo]
def AWn (P : Program) (c : Code) (Q : APost) : Nat → List AV → List TK → Prop
  | 0, _, _ => False
  | n + 1, t, st => AW P c (thenA (AWn P c Q n) Q) t st
theorem AW.unroll {c : Code} {Q : APost} (n : Nat) (h : AWn P c Q n t st) : AW P (.loop c) Q t st := fun F ρ w0 w a hs hm => by
  refine wp_loop_rounds n ?_
  have key : ∀ n t st ρ w a, AWn P c Q n t st → St F ρ st w0 w → Fm F ρ st w a t → Code.rounds P c (CP F Q w0) n a w := by
    intro n
    induction n with
    | zero => intro t st ρ w a h _ _; exact h.elim
    | succ n ih =>
      intro t st ρ w a h hs hm; rw [rounds_succ]; refine wp_mono (h F ρ w0 w a hs hm) fun e a' w' ⟨ρ', t', st', h1, h2, h3⟩ => ?_
      cases e with
      | normal => exact ih t' st' ρ' w' a' h3 h1 h2
      | _ => exact ⟨ρ', t', st', h1, h2, h3⟩
  exact key n t st ρ w a h hs hm
theorem St.nown (hs : St F ρ st w0 w) {k : Nat} {tk : TK} (hk : st[k]? = some tk) (el sz : Nat) : St F ρ (st.set k ⟨tk.g + 1, .nown el sz⟩) w0 w ∧ Mv F ρ st w ρ (st.set k ⟨tk.g + 1, .nown el sz⟩) w := by
  have hmv : Mv F ρ st w ρ (st.set k ⟨tk.g + 1, .nown el sz⟩) w := Mv.upd hk (fun _ _ => rfl) (fun b o hf ho => ⟨fun h => h, ho⟩) (.inr (.inl (Nat.lt_succ_self _)))
  exact ⟨hs.upd hk (fun _ _ => rfl) hs.below (Nat.le_refl _) hmv (fun _ _ _ _ _ _ => rfl) (fun b hf => hf.elim) (fun j q b hj hq hf hf' => hf') (fun ty cs e => by cases e) (fun el' sz' xs' e => by cases e) (fun p e => by cases e), hmv⟩
theorem St.reboxW (hs : St F ρ st w0 w) {k g : Nat} {ty : TypeId} {cs cs' : List AV} (hk : st[k]? = some ⟨g, .box ty cs⟩) (vs : Array Value) (h1 : w.heap[(ρ k).1]? = some (.cells vs ty (0, 0))) (h2 : vs.size = cs'.length) (h3 : ∀ v ∈ vs, v.oneCell' = true) (h4 : ∀ (j : Nat) v x, vs[j]? = some v → cs'[j]? = some x → Rep F ρ st w v x) :
    St F ρ (st.set k ⟨g, .box ty cs'⟩) w0 w ∧ Mv F ρ st w ρ (st.set k ⟨g, .box ty cs'⟩) w := by
  have hmv : Mv F ρ st w ρ (st.set k ⟨g, .box ty cs'⟩) w := Mv.upd hk (fun _ _ => rfl) (fun b o hf ho => ⟨fun h => hf.2 k _ hk h, ho⟩) (.inr (.inr (.inr ⟨rfl, rfl, rfl, rfl⟩)))
  refine ⟨hs.upd hk (fun _ _ => rfl) hs.below (Nat.le_refl _) hmv (fun _ _ _ _ _ _ => rfl) (fun b hf => hs.ge k _ b hk hf) (fun j q b hj hq hf hf' => hj (hs.inj j q k _ b hq hf hk hf')) (fun ty' cs1 e => ?_) (fun el' sz' xs' e => by cases e) (fun p e => by cases e), hmv⟩
  injection e with e1 e2
  subst e1 e2
  exact ⟨vs, h1, h2, h3, fun j v x hv hx => (h4 j v x hv hx).mv hmv⟩
theorem St.rebox (hs : St F ρ st w0 w) {k g : Nat} {ty : TypeId} {cs cs' : List AV} (hk : st[k]? = some ⟨g, .box ty cs⟩) (hl : cs'.length = cs.length) (hr : ∀ (j : Nat) v x x', cs[j]? = some x → cs'[j]? = some x' → Rep F ρ st w v x → Rep F ρ st w v x') :
    St F ρ (st.set k ⟨g, .box ty cs'⟩) w0 w ∧ Mv F ρ st w ρ (st.set k ⟨g, .box ty cs'⟩) w := by
  obtain ⟨vs, h1, h2, h3, h4⟩ := hs.box k _ _ cs hk
  refine hs.reboxW hk vs h1 (by omega) h3 fun i v x hv hx => ?_
  have hi : i < cs.length := by rw [← hl]; exact (List.getElem?_eq_some_iff.1 hx).1
  exact hr i v _ x (List.getElem?_eq_getElem hi) hx (h4 i v _ hv (List.getElem?_eq_getElem hi))
theorem AL.nilbx {ops : Array Oper} {K : List AV → List TK → Prop} {l : List Oper} (kb off k : Nat) {tk : TK} (el sz : Nat) {g : Nat} {ty : TypeId} {cs : List AV} (hb : st[kb]? = some ⟨g, .box ty cs⟩) (hc : cs[off]? = some (.sc (.slice none 0 0))) (hk : st[k]? = some tk) (hne : kb ≠ k)
    (h : AL P ops K l t ((st.set k ⟨tk.g + 1, .nown el sz⟩).set kb ⟨g, .box ty (cs.set off (.ow k (tk.g + 1)))⟩)) : AL P ops K l t st := fun F ρ w0 w a hs hm => by
  have hklt := (List.getElem?_eq_some_iff.1 hk).1
  obtain ⟨hs1, hm1⟩ := hs.nown hk el sz
  have hb1 : (st.set k ⟨tk.g + 1, .nown el sz⟩)[kb]? = some ⟨g, .box ty cs⟩ := by rw [List.getElem?_set_ne (fun e => hne e.symm)]; exact hb
  obtain ⟨hs2, hm2⟩ := hs1.rebox hb1 (cs' := cs.set off (.ow k (tk.g + 1))) (by simp) (fun j v x x' hx hx' hr => by
    rw [List.getElem?_set] at hx'
    split at hx'
    · rename_i e
      subst e
      rw [hc] at hx
      injection hx with hx
      subst hx
      split at hx'
      · injection hx' with hx'
        subst hx'
        obtain rfl := hr.of_sc
        exact .ow0 k _ el sz (by rw [List.getElem?_set_self hklt])
      cases hx'
    rw [hx] at hx'
    injection hx' with hx'
    subst hx'
    exact hr)
  exact h F ρ w0 w a hs2 ((hm.mv hm1).mv hm2)
def owM (b : Bool) (el sz : Nat) : List (List AV) → TC
  | [] => if b then .nown el sz else .own el sz []
  | x :: xs => .own el sz (x :: xs)
theorem owM_f (el sz : Nat) (xs : List (List AV)) : owM false el sz xs = .own el sz xs := by cases xs <;> rfl
def cont : TC → Option (List (List AV))
  | .own _ _ xs => some xs
  | .nown _ _ => some []
  | _ => none
theorem cont_owM (b : Bool) (el sz : Nat) (xs : List (List AV)) : cont (owM b el sz xs) = some xs := by cases xs <;> cases b <;> rfl
theorem live_owM {k g : Nat} {b : Bool} {el sz : Nat} {xs : List (List AV)} (hk : st[k]? = some ⟨g, owM b el sz xs⟩) : liveA st (.ow k g) = true := by
  cases xs <;> cases b <;> simp [liveA, hk, owM, TC.isO]
theorem isO_owM (b : Bool) (el sz : Nat) (xs : List (List AV)) : (owM b el sz xs).isO = true := by cases xs <;> cases b <;> rfl
theorem renC_owM (ks : List Nat) (b : Bool) (el sz : Nat) (xs : List (List AV)) : renC ks (owM b el sz xs) = owM b el sz xs := by cases xs <;> cases b <;> rfl
theorem op_append00 {T e k g sz by_ : Nat} {el sz' : Nat} (ho : o.op = .call { callee := .builtin .append, args := #[s, x], argTypes := #[T, T] }) (hT : apI P T = some (e, sz, by_)) (hs : evA t s = .ow k g) (hk : st[k]? = some ⟨g, .nown el sz'⟩) (hx : Src t st x sz [])
    (h : K (.ow k (g + 1)) (st.set k ⟨g + 1, .nown el sz'⟩)) : AOp P o t st K := fun F ρ w0 w a hst hm next Q hn => by
  obtain ⟨hu, hpos, i, z, hi, hz0, hz1, hz2, hz⟩ := ap_parts hT
  obtain ⟨A, c, news, he, hn1, hn2, hn3, hn4, hn5, hn6⟩ := hx F ρ w0 w a hst hm
  have hv := hm.ev s
  rw [hs] at hv
  have hv := hv.ow0_inv hk
  have hrun : (Builtin.append_ #[T, T] o.type #[.slice none 0 0, .slice A 0 c]).run P w = .ok (.slice none 0 0) w := by
    cases A <;> simp [Builtin.append_, run_underlying hu, sizeOf, typeInfo, hi, Builtin.lenOf, Builtin.firstCells, storeCells, loadCells, loadCellsFrom]
  have hrun2 : (execOp a.eval o).run P w = .ok (.value (.slice none 0 0)) w := by
    simp only [execOp, ho, resolve, invoke, builtin, Sem.run_bind, Sem.run_pure, Result.andThen_ok, List.map_toArray, List.map_cons, List.map_nil, hv, he, List.length_nil, hrun]
  unfold Oper.wp
  rw [hrun2]
  obtain ⟨hs', hmv⟩ := hst.nown hk el sz'
  exact hn _ w ρ _ _ hs' hmv (.ow0 k (g + 1) el sz' (by rw [List.getElem?_set_self (List.getElem?_eq_some_iff.1 hk).1])) h
theorem op_appendM {T e k g sz by_ : Nat} {b : Bool} {xs ys : List (List AV)} (ho : o.op = .call { callee := .builtin .append, args := #[s, x], argTypes := #[T, T] }) (hT : apI P T = some (e, sz, by_)) (hs : evA t s = .ow k g) (hk : st[k]? = some ⟨g, owM b e sz xs⟩) (hx : Src t st x sz ys) (hsz : (xs.length + ys.length) * by_ ≤ 140737488355328) (hml : xs.length + ys.length ≤ 9223372036854775807)
    (h : K (.ow k (g + 1)) (st.set k ⟨g + 1, owM b e sz (xs ++ ys)⟩)) : AOp P o t st K := by
  cases xs with
  | nil =>
    cases b with
    | true =>
      cases ys with
      | nil => exact op_append00 ho hT hs hk hx h
      | cons y ys => exact AOpB.op (op_append0 (tk := ⟨g, .nown e sz⟩) k ho hT (.inl ⟨e, sz, hs, rfl⟩) hk hx (by simp) (by simpa using hsz) (by simpa using hml) h)
    | false =>
      refine op_append ho hT hs hk hx hsz hml ?_; rw [owM_f] at h; exact h
  | cons z zs => exact op_append ho hT hs hk hx hsz hml h
theorem St.settle (hs : St F ρ st w0 w) {k g : Nat} {tc : TC} {xs : List (List AV)} (hk : st[k]? = some ⟨g, tc⟩) (hc : cont tc = some xs) : St F ρ (st.set k ⟨g, .off⟩) w0 w ∧ Mv F ρ st w ρ (st.set k ⟨g, .off⟩) w ∧ ∀ v, Rep F ρ st w v (.ow k g) → Rep F ρ (st.set k ⟨g, .off⟩) w v (.sl xs) := by
  have hklt := (List.getElem?_eq_some_iff.1 hk).1
  have hmv : Mv F ρ st w ρ (st.set k ⟨g, .off⟩) w := Mv.upd hk (fun _ _ => rfl) (fun b o hf ho => ⟨fun h => h, ho⟩) (.inr (.inr (.inl ⟨rfl, rfl⟩)))
  have hfr : ∀ b, Free F ρ st b → Free F ρ (st.set k ⟨g, .off⟩) b := fun b hf => ⟨hf.1, fun j q hq hb => by
    rcases get_set hklt hq with ⟨rfl, rfl⟩ | ⟨_, h'⟩
    · exact hb
    exact hf.2 j q h' hb⟩
  refine ⟨hs.upd hk (fun _ _ => rfl) hs.below (Nat.le_refl _) hmv (fun _ _ _ _ _ _ => rfl) (fun b hf => hf.elim) (fun j q b hj hq hf hf' => hf') (fun ty cs e => by cases e) (fun el' sz' xs' e => by cases e) (fun p e => by cases e), hmv, fun v hr => ?_⟩
  cases tc with
  | own el sz ys =>
    injection hc with hc
    subst hc
    rw [hr.ow_inv hk]
    obtain ⟨vs, h1, h2, h3, h4, h5⟩ := hs.own k _ el sz _ hk
    have hge := hs.geB k _ hk (by simp)
    refine .s (RepO.sl (base := 0) (el := el) ⟨vs, h1, h2, h3, h4, fun i j cs v x a b c => (h5 i j cs v x a b c).mono fun b _ hb => ⟨hfr b hb, fun e => hb.ne k _ hk (by simp) e.symm⟩⟩ ⟨hge.1.2, fun j tk hj hb => ?_⟩)
    rcases get_set hklt hj with ⟨rfl, rfl⟩ | ⟨hne, hj'⟩
    · exact hb
    exact hne (hs.inj j tk k _ _ hj' hb hk rfl)
  | nown el sz =>
    injection hc with hc
    subst hc
    rw [hr.ow0_inv hk]
    exact .s (.sl0 _ _ (Nat.zero_le _))
  | _ => simp [cont] at hc
theorem AL.settle {ops : Array Oper} {K : List AV → List TK → Prop} {l : List Oper} (d : Nat) {k g : Nat} {tc : TC} {xs : List (List AV)} (hd : t[d]? = some (.ow k g)) (hk : st[k]? = some ⟨g, tc⟩) (hc : cont tc = some xs) (h : AL P ops K l (t.set d (.sl xs)) (st.set k ⟨g, .off⟩)) : AL P ops K l t st := fun F ρ w0 w a hs hm => by
  obtain ⟨h1, h2, h3⟩ := hs.settle hk hc
  refine h F ρ w0 w a h1 ?_
  have hm' := hm.mv h2
  refine ⟨hm'.defers, by simp [hm'.size], fun i v x hv hx => ?_⟩; rw [List.getElem?_set] at hx
  split at hx
  · rename_i e
    subst e
    split at hx
    · injection hx with hx
      subst hx
      exact h3 v (hm.rep _ v _ hv hd)
    cases hx
  exact hm'.rep i v x hv hx
theorem AL.settlebx {ops : Array Oper} {K : List AV → List TK → Prop} {l : List Oper} (kb off : Nat) {k g gb : Nat} {tc : TC} {ty : TypeId} {cs : List AV} {xs : List (List AV)} (hb : st[kb]? = some ⟨gb, .box ty cs⟩) (hd : cs[off]? = some (.ow k g)) (hk : st[k]? = some ⟨g, tc⟩) (hc : cont tc = some xs)
    (h : AL P ops K l t ((st.set k ⟨g, .off⟩).set kb ⟨gb, .box ty (cs.set off (.sl xs))⟩)) : AL P ops K l t st := fun F ρ w0 w a hs hm => by
  have hne : kb ≠ k := fun e => by subst e; rw [hb] at hk; injection hk with hk; injection hk with _ hk; subst hk; simp [cont] at hc
  obtain ⟨h1, h2, h3⟩ := hs.settle hk hc
  have hb1 : (st.set k ⟨g, .off⟩)[kb]? = some ⟨gb, .box ty cs⟩ := by rw [List.getElem?_set_ne (fun e => hne e.symm)]; exact hb
  -- the box's cells over the old store
  obtain ⟨vs, b1, b2, b3, b4⟩ := hs.box kb gb ty cs hb
  have key := h1.reboxW (cs' := cs.set off (.sl xs)) hb1 vs b1 (by simpa using b2) b3 (fun i v x hv hx => by
    rw [List.getElem?_set] at hx
    split at hx
    · rename_i e
      subst e
      split at hx
      · injection hx with hx
        subst hx
        exact h3 v (b4 _ v _ hv hd)
      cases hx
    exact (b4 i v x hv hx).mv h2)
  exact h F ρ w0 w a key.1 ((hm.mv h2).mv key.2)
end
def ARdA (P : Program) (o : Oper) (t : List AV) (st : List TK) (x : AV) : Prop := ∀ F ρ w0 w a, St F ρ st w0 w → Fm F ρ st w a t → ∃ v, Rep F ρ st w v x ∧ ∀ w', Bel ⟨w, ρ, st⟩ w' → (execOp a.eval o).run P w' = .ok (.value v) w'
def ARdP (P : Program) (o : Oper) (t : List AV) (st : List TK) (x : AV) : Prop := ∀ F ρ w0 w a, St F ρ st w0 w → Fm F ρ st w a t → ∃ v, Rep F ρ st w v x ∧ ∀ w', (execOp a.eval o).run P w' = .ok (.value v) w'
section
variable {P : Program} {o : Oper} {t : List AV} {st : List TK} {x y s c : Operand} {vx vy v : Value} {z z' : AV} {zs : List AV} {K : AV → List TK → Prop}
theorem ARdP.a (h : ARdP P o t st z) : ARdA P o t st z := fun F ρ w0 w a hs hm => by
  obtain ⟨v, h1, h2⟩ := h F ρ w0 w a hs hm
  exact ⟨v, h1, fun w' _ => h2 w'⟩
theorem rdP_move (ho : o.op = .move x) (hx : evA t x = z) : ARdP P o t st z := fun F ρ w0 w a hs hm => ⟨_, hx ▸ hm.ev x, fun w' => by simp only [execOp, ho]; rfl⟩
theorem rdP_assign (ho : o.op = .assign x) (hx : evA t x = z) : ARdP P o t st z := fun F ρ w0 w a hs hm => ⟨_, hx ▸ hm.ev x, fun w' => by simp only [execOp, ho]; rfl⟩
theorem rdP_pick_t (ho : o.op = .pick c x y) (hc : evV t c = some (.bool true)) (hx : evA t x = z) : ARdP P o t st z := fun F ρ w0 w a hs hm => ⟨_, hx ▸ hm.ev x, fun w' => by simp only [execOp, ho, hm.val hc]; rfl⟩
theorem rdP_pick_f (ho : o.op = .pick c x y) (hc : evV t c = some (.bool false)) (hx : evA t y = z) : ARdP P o t st z := fun F ρ w0 w a hs hm => ⟨_, hx ▸ hm.ev y, fun w' => by simp only [execOp, ho, hm.val hc]; rfl⟩
theorem rdP_bin {op : BinOp} {xt yt : TypeId} (ho : o.op = .binOp op xt x y yt) (hx : evV t x = some vx) (hy : evV t y = some vy) (hr : ∀ w, (eqGuard op xt x y vx vy >>= fun _ => binOp op xt vx vy).run P w = .ok v w) : ARdP P o t st (.sc v) := fun F ρ w0 w a hs hm => ⟨v, .sc v, fun w' => by
  have h := hr w'
  rw [Sem.run_bind] at h
  simp only [execOp, ho, hm.val hx, hm.val hy, Sem.run_bind, h, Result.andThen_ok, Sem.run_pure]⟩
theorem rdP_extract {i : Nat} {vs : List AV} (ho : o.op = .extract x i) (hx : evA t x = .tu vs) (hi : vs[i]? = some z) : ARdP P o t st z := fun F ρ w0 w a hs hm => by
  have h := hm.ev x
  rw [hx] at h
  have key : ∀ us : Array Value, us.size = vs.length → a.eval x = .tuple us → ∀ v, us[i]? = some v → ∀ w', (execOp a.eval o).run P w' = .ok (.value v) w' := fun us _ he v hv w' => by
    simp only [execOp, ho, he, Instr.extract, hv]
    rfl
  generalize hq : a.eval x = q at *
  cases h with
  | s h =>
    cases h with
    | tu us _ hsz hr =>
      have hlt : i < us.size := by rw [hsz]; exact (List.getElem?_eq_some_iff.1 hi).1
      have hv := Array.getElem?_eq_getElem hlt
      exact ⟨_, .s (hr i _ z hv hi), key us hsz rfl _ hv⟩
  | tu us _ hsz hr =>
    have hlt : i < us.size := by rw [hsz]; exact (List.getElem?_eq_some_iff.1 hi).1
    have hv := Array.getElem?_eq_getElem hlt
    exact ⟨_, hr i _ z hv hi, key us hsz rfl _ hv⟩
theorem rdP_faddr_bx {s f off k g off0 : Nat} {tc : TC} (ho : o.op = .fieldAddr s x f) (hT : fOff P s f = some off) (hx : evA t x = .bx k g off0) (hk : st[k]? = some ⟨g, tc⟩) (hb : ∃ ty cs, tc = .box ty cs) : ARdP P o t st (.bx k g (off0 + off)) := fun F ρ w0 w a hs hm => by
  have h := hm.ev x
  rw [hx] at h
  obtain ⟨ty, cs, rfl⟩ := hb
  generalize hq : a.eval x = q at *
  cases h with
  | s h => cases h
  | bx _ _ _ ty' cs' hk' =>
    refine ⟨_, .bx k g _ ty' cs' hk', fun w' => ?_⟩; simp only [execOp, ho, hq, Sem.run_bind, run_fieldAt hT, Result.andThen_ok, Sem.run_pure, Addr.add_mid]
  | ob _ _ _ p hk' => rw [hk] at hk'; injection hk' with hk'; injection hk' with _ hk'; cases hk'
  | bo _ _ _ _ _ _ hk' => rw [hk] at hk'; injection hk' with hk'; injection hk' with _ hk'; cases hk'
  | bxd _ _ _ _ hst =>
    obtain ⟨tk, h1, h2⟩ := hst
    rw [hk] at h1
    injection h1 with h1
    subst h1
    rcases h2 with h2 | ⟨_, h2⟩
    · exact absurd h2 (Nat.lt_irrefl _)
    cases h2
theorem rdP_iaddr_sl {T e : TypeId} {k : IntKind} {i : Int} {n sz : Nat} {xs : List (List AV)} {cs : List AV} (ho : o.op = .indexAddr T x y) (hT : elT P T = some (e, sz)) (hx : evA t x = .sl xs) (hy : evV t y = some (.int k i)) (hi : i = (n : Int)) (hc : xs[n]? = some cs) (hl : cs.length = sz) : ARdP P o t st (.ep cs 0) := fun F ρ w0 w a hs hm => by
  subst hi
  have h := hm.ev x
  rw [hx] at h
  have h := h.sl_s
  obtain ⟨hu, inf, hi1, hi2⟩ := el_under hT
  have hlt := (List.getElem?_eq_some_iff.1 hc).1
  generalize hq : a.eval x = q at *
  cases h with
  | sl0 A c hcm => simp at hlt
  | sl1 b off m c sz' V _ hn h0 hnc hcm hsz hf hl' hv h1 hr =>
    have hs' : sz' = sz := by rw [← hl' n cs hc, hl]
    subst hs'
    refine ⟨.pointer (some ⟨b, off + n * sz' + 0, none⟩), .ep b (off + n * sz') 0 cs (fun j => V n j) (by omega) hf (fun j hj => ?_) (fun j => h1 n j) (fun j x hx => hr n j cs x hc hx), fun w' => ?_⟩
    · rw [Nat.add_assoc]
      exact hv n j (by omega) (by omega)
    have hnm : (n : Int) < m := by omega
    simp only [execOp, ho, Instr.indexAt, hq, hm.val hy, Sem.run_bind, asIntOf, Sem.run_pure, Result.andThen_ok, run_underlying hu]
    simp [hnm, sizeOf, typeInfo, hi1, hi2, Addr.add_mid]
theorem rdP_build {T : TypeId} {parts : Array (Nat × Operand)} {pls : List (Nat × Nat)} {zl : List Value} {qs : List (Nat × List AV)} {cs : List AV} (ho : o.op = .build T parts) (hT : plI P T = some pls) (hz : zeroC P T = some zl) (hq : partsA t st parts.toList = some qs) (hf : fillA (fun i => pls[i]?) (zl.map .sc) qs = some cs) : ARdP P o t st (.ag cs) := fun F ρ w0 w a hs hm => by
  obtain ⟨h1, h2⟩ := parts_rep hm parts.toList qs hq
  unfold zeroC at hz
  cases hi : P.info? T with
  | none => rw [hi] at hz; cases hz
  | some i =>
    rw [hi] at hz
    cases hzz : i.zero with
    | none => simp [hzz] at hz
    | some zv =>
      simp [hzz] at hz
      obtain ⟨hone, rfl⟩ := hz
      obtain ⟨vs', g1, g2, g3, g4⟩ := fill_rel (R := Rep F ρ st w) (fun i => pls[i]?) (parts.toList.map fun p => (p.1, a.eval p.2)) qs zv.cells (zv.cells.toList.map .sc) cs h1 h2 (by simp) (fun u hu => by
          obtain ⟨j, hj, rfl⟩ := Array.mem_iff_getElem.1 hu
          exact hone j hj) (fun j v x hv hx => by
          simp at hx
          rw [hv] at hx
          simp at hx
          subst hx
          exact .sc v) hf
      refine ⟨.agg vs', .ag vs' cs g2 g3 g4, fun w' => ?_⟩
      unfold plI at hT
      split at hT
      · rename_i fs hu
        have hpl := run_places (w := w') hT
        have hpl2 : (fs.mapM (fun f => (do pure (f.offset, ← sizeOf f.type) : Sem (Nat × Nat)))).run P w' = .ok pls.toArray w' := by
          rw [Array.mapM_eq_mapM_toList]
          show Sem.run P (fs.toList.mapM (fun f => (do pure (f.offset, ← sizeOf f.type) : Sem (Nat × Nat))) >>= fun l => pure l.toArray) w' = _
          rw [Sem.run_bind, hpl]
          rfl
        have e : (parts.map fun (i, x) => (i, a.eval x)).toList = parts.toList.map fun p => (p.1, a.eval p.2) := by simp
        simp only [execOp, ho, Instr.build, zeroValue, typeInfo, Sem.run_bind]
        simp only [run_program, hi, hzz, Sem.run_bind, Sem.run_pure, Result.andThen_ok, run_underlying hu, hpl2, e]
        have e2 : (fun i : Nat => (pls.toArray)[i]?) = fun i : Nat => pls[i]? := by funext i; simp
        simp only [e2, g1, Sem.run_pure, Result.andThen_ok]
      cases hT
theorem rdP_nilc_bx {k g off : Nat} {c : TC} (ho : o.op = .nilCheck x) (hx : evA t x = .bx k g off) (hk : st[k]? = some ⟨g, c⟩) (hc : c.isB = true := by rfl) : ARdP P o t st (.bx k g off) := fun F ρ w0 w a hs hm => by
  have h := hm.ev x
  rw [hx] at h
  have hv := h.bx_invB hk hc
  refine ⟨_, h, fun w' => ?_⟩; simp only [execOp, ho, hv]; rfl
theorem Free.notM {F : Nat → Prop} {ρ : Loc} {w : World} {b : Nat} (h : Free F ρ st b) : ¬ (⟨w, ρ, st⟩ : Bs).M b := fun ⟨k, tk, h1, h2⟩ => h.2 k tk h1 h2
theorem St.self {F : Nat → Prop} {ρ : Loc} {w0 : Bs} {w : World} (hs : St F ρ st w0 w) : St F ρ st ⟨w, ρ, st⟩ w where
  below := Bel.refl ⟨w, ρ, st⟩
  fresh := hs.fresh
  box := hs.box
  own := hs.own
  obj := hs.obj
  ge k tk b hk hb := ⟨⟨.inr ⟨k, tk, hk, hb⟩, (hs.ge k tk b hk hb).1.2⟩, (hs.ge k tk b hk hb).2⟩
  inj := hs.inj
  hist k tk0 h := ⟨tk0, h, .inl ⟨rfl, rfl⟩⟩
theorem St.rebase {F : Nat → Prop} {ρ ρ' : Loc} {st' : List TK} {w0 : Bs} {w w' : World} (hs : St F ρ st w0 w) (h1 : St F ρ' st' ⟨w, ρ, st⟩ w') : St F ρ' st' w0 w' where
  below := ⟨h1.below.os.trans hs.below.os, h1.below.tape.trans hs.below.tape, h1.below.output.trans hs.below.output, Nat.le_trans hs.below.size h1.below.size, fun b hb hM => (h1.below.block b (Nat.lt_of_lt_of_le hb hs.below.size) fun ⟨k, tk, hk, hbk⟩ => by
    rcases (hs.ge k tk b hk hbk).1.1 with h2 | h2
    · omega
    exact hM h2).trans (hs.below.block b hb hM)⟩
  fresh := h1.fresh
  box := h1.box
  own := h1.own
  obj := h1.obj
  ge k tk b hk hb := by
    refine ⟨⟨?_, (h1.ge k tk b hk hb).1.2⟩, (h1.ge k tk b hk hb).2⟩
    rcases (h1.ge k tk b hk hb).1.1 with h2 | ⟨k2, tk2, a1, a2⟩
    · exact .inl (Nat.le_trans hs.below.size h2)
    exact (hs.ge k2 tk2 b a1 a2).1.1
  inj := h1.inj
  hist k tk0 h := by
    obtain ⟨tk, h2, h3⟩ := hs.hist k tk0 h
    obtain ⟨tk', h4, h5⟩ := h1.hist k tk h2
    exact ⟨tk', h4, h3.trans h5⟩
end
section
variable {P : Program} {K : List AV → List TK → Prop} {o : Oper} {l : List Oper} {t : List AV} {st : List TK} {Q : APost} {x : AV} {fuel : Nat} {listed : Array Bool}
def ADA (P : Program) (l : List Oper) (K : List AV → List TK → Prop) (fuel : Nat) (listed : Array Bool) (t : List AV) (st : List TK) : Prop := ∀ F ρ w0 w a, St F ρ st w0 w → Fm F ρ st w a t → ∀ Q : Exit → Act → World → Prop, (∀ ρ' t' st' w' a', St F ρ' st' w0 w' → Fm F ρ' st' w' a' t' → K t' st' → Q .normal a' w') →
  wpAnyH P .any l.toArray (NoPanic Q) (fun w' => Bel ⟨w, ρ, st⟩ w') fuel listed a w
def ADB (P : Program) (l : List Oper) (K : List AV → List TK → Prop) (fuel : Nat) (listed : Array Bool) (t : List AV) (st : List TK) : Prop := ∀ F ρ w0 w a (B : Bs), St F ρ st w0 w → St F ρ st B w → Fm F ρ st w a t → ∀ Q : Exit → Act → World → Prop, (∀ ρ' t' st' w' a', St F ρ' st' w0 w' → Fm F ρ' st' w' a' t' → K t' st' → Q .normal a' w') →
  wpAnyH P .any l.toArray (NoPanic Q) (fun w' => Bel B w') fuel listed a w
theorem AW.drawA {id : Nat} (hp : P.follows .mixedOrders = true) (h : ADA P l (fun t st => Q .normal t st) l.length (Array.replicate l.length false) t st) : AW P (.region id l.toArray true) Q t st := fun F ρ w0 w a hs hm =>
  wp_region_noPanic (wp_region_held (S := fun w' => Bel ⟨w.drew, ρ, st⟩ w') hp (by
    have e : l.toArray.size = l.length := by simp
    rw [e]
    exact h F ρ w0 w.drew a (hs.grow (Below.refl _ _).drew) (hm.mv (Mv.below (Below.refl _ _).drew)) _ fun ρ' t' st' _ _ h1 h2 h3 => ⟨ρ', t', st', h1, h2, h3⟩))
theorem ADA.take (i : Nat) (hi : l[i]? = some o) (hs : Region.noSelect l.toArray = true) (hf : Region.free .any l.toArray listed i = true) (hr : (Region.ready .any l.toArray listed).contains i = true)
    (hw : WantA l.toArray o t true) (h : ARdA P o t st x) (hk : ADA P l K fuel (listed.setIfInBounds i true) (putA t o.dst x) st) : ADA P l K (fuel + 1) listed t st := fun F ρ w0 w a hs' hm Q hq => by
  obtain ⟨v, h1, h2⟩ := h F ρ w0 w a hs' hm
  exact wpAnyH_take (by simpa using hi) hs hf hr (fun _ _ _ h => h) (.inl ⟨hw.run hm, h2⟩) (Bel.refl ⟨w, ρ, st⟩) (hk F ρ w0 w _ hs' (hm.put _ h1) Q hq)
theorem ADA.b (h : ADB P l K fuel listed t st) : ADA P l K fuel listed t st := fun F ρ w0 w a hs hm Q hq => h F ρ w0 w a ⟨w, ρ, st⟩ hs hs.self hm Q hq
theorem ADB.take (i : Nat) (hi : l[i]? = some o) (hs : Region.noSelect l.toArray = true) (hf : Region.free .any l.toArray listed i = true) (hr : (Region.ready .any l.toArray listed).contains i = true)
    (hw : WantA l.toArray o t true) (h : ARdP P o t st x) (hk : ADB P l K fuel (listed.setIfInBounds i true) (putA t o.dst x) st) : ADB P l K (fuel + 1) listed t st := fun F ρ w0 w a B hs' hB hm Q hq => by
  obtain ⟨v, h1, h2⟩ := h F ρ w0 w a hs' hm
  exact wpAnyH_take (by simpa using hi) hs hf hr (fun _ _ _ h => h) (.inl ⟨hw.run hm, fun w' _ => h2 w'⟩) hB.below (hk F ρ w0 w _ B hs' hB (hm.put _ h1) Q hq)
theorem ADB.skip (i : Nat) (hi : l[i]? = some o) (hs : Region.noSelect l.toArray = true) (hf : Region.free .any l.toArray listed i = true) (hr : (Region.ready .any l.toArray listed).contains i = true)
    (hw : WantA l.toArray o t false) (hk : ADB P l K fuel (listed.setIfInBounds i true) (putA t o.dst (.sc undef)) st) : ADB P l K (fuel + 1) listed t st := fun F ρ w0 w a B hs' hB hm Q hq =>
  wpAnyH_take (by simpa using hi) hs hf hr (fun _ _ _ h => h) (.inr ⟨hw.run hm, rfl⟩) hB.below (hk F ρ w0 w _ B hs' hB (hm.put _ (.sc _)) Q hq)
def ADBo (P : Program) (l : List Oper) (K : List AV → List TK → Prop) (fuel : Nat) (listed : Array Bool) (t : List AV) (st : List TK) (i : Nat) : Prop := ∃ o, l[i]? = some o ∧ WantA l.toArray o t true ∧ AOp P o t st fun x st' => ADB P l K fuel (listed.setIfInBounds i true) (putA t o.dst x) st'
theorem ADB.all {is : List Nat} (hr : Region.ready .any l.toArray listed = is) (hne : is ≠ []) (h : ∀ i ∈ is, ADBo P l K fuel listed t st i) : ADB P l K (fuel + 1) listed t st := fun F ρ w0 w a B hs hB hm Q hq => by
  refine wpAnyH_all hr (by simpa using hne) fun j hj => ?_; obtain ⟨oj, hi, hw, ho⟩ := h j hj
  unfold wpOp
  have hi' : l.toArray[j]? = some oj := by simpa using hi
  simp only [hi', hw.run hm, if_true]
  exact .inl (ho F ρ ⟨w, ρ, st⟩ w a hs.self hm _ (NoPanic Q) fun v w' ρ' st' x h1 h2 h3 h4 => ⟨(hB.rebase h1).below, h4 F ρ' w0 w' _ B (hs.rebase h1) (hB.rebase h1) ((hm.mv h2).put _ h3) Q hq⟩)
theorem ADB.move (i : Nat) (hi : l[i]? = some o) (hr : Region.ready .any l.toArray listed = [i]) (hw : WantA l.toArray o t true) (h : AOp P o t st fun x st' => ADB P l K fuel (listed.setIfInBounds i true) (putA t o.dst x) st') : ADB P l K (fuel + 1) listed t st :=
  ADB.all hr (by simp) fun j hj => by
    obtain rfl : j = i := by simpa using hj
    exact ⟨o, hi, hw, h⟩
theorem ADB.done (hr : Region.ready .any l.toArray listed = []) (h : K t st) : ADB P l K fuel listed t st := fun F ρ w0 w a B hs hB hm Q hq => wpAnyH_done (Q := NoPanic Q) hr (NoPanic.normal (hq ρ t st w a hs hm h)) _
theorem ADB.fork {d : Nat} {b : Bool} (hb : evA t (.tmp d) = .sc (.bool b)) (ht : b = true → ADB P l K fuel listed (t.set d (.sc (.bool true))) st) (hf : b = false → ADB P l K fuel listed (t.set d (.sc (.bool false))) st) : ADB P l K fuel listed t st := fun F ρ w0 w a B hs hB hm => by
  cases b with
  | true => have := ht rfl; rw [hm.setB hb] at this; exact this F ρ w0 w a B hs hB hm
  | false => have := hf rfl; rw [hm.setB hb] at this; exact this F ρ w0 w a B hs hB hm
end
section
variable {P : Program} {o : Oper} {t : List AV} {st : List TK} {x y s : Operand} {K : AV → List TK → Prop} {F : Nat → Prop} {ρ : Loc} {w0 : Bs} {w w' : World} {v : Value} {z : AV}
theorem ARdP.rd (h : ARdP P o t st z) : ARd P o t st z := fun F ρ w0 w a hs hm => by
  obtain ⟨v, h1, h2⟩ := h F ρ w0 w a hs hm
  exact ⟨v, h1, fun w' _ => h2 w'⟩
theorem rdP_buildA {T n e sz : Nat} {parts : Array (Nat × Operand)} {zl : List Value} {qs : List (Nat × List AV)} {cs : List AV} (ho : o.op = .build T parts) (hT : arT P T = some (n, e, sz)) (hz : zeroC P T = some zl) (hq : partsA t st parts.toList = some qs) (hf : fillA (fun i => some (i * sz, sz)) (zl.map .sc) qs = some cs) : ARdP P o t st (.ag cs) := fun F ρ w0 w a hs hm => by
  obtain ⟨h1, h2⟩ := parts_rep hm parts.toList qs hq
  obtain ⟨hu, inf, hi1, hi2⟩ := ar_parts hT
  unfold zeroC at hz
  cases hi : P.info? T with
  | none => rw [hi] at hz; cases hz
  | some i =>
    rw [hi] at hz
    cases hzz : i.zero with
    | none => simp [hzz] at hz
    | some zv =>
      simp [hzz] at hz
      obtain ⟨hone, rfl⟩ := hz
      obtain ⟨vs', g1, g2, g3, g4⟩ := fill_rel (R := Rep F ρ st w) (fun i => some (i * sz, sz)) (parts.toList.map fun p => (p.1, a.eval p.2)) qs zv.cells (zv.cells.toList.map .sc) cs h1 h2 (by simp) (fun u hu => by
          obtain ⟨j, hj, rfl⟩ := Array.mem_iff_getElem.1 hu
          exact hone j hj) (fun j v x hv hx => by
          simp at hx
          rw [hv] at hx
          simp at hx
          subst hx
          exact .sc v) hf
      refine ⟨.agg vs', .ag vs' cs g2 g3 g4, fun w' => ?_⟩
      have e : (parts.map fun (i, x) => (i, a.eval x)).toList = parts.toList.map fun p => (p.1, a.eval p.2) := by simp
      simp only [execOp, ho, Instr.build, zeroValue, typeInfo, Sem.run_bind]
      simp only [run_program, hi, hzz, Sem.run_bind, Sem.run_pure, Result.andThen_ok, run_underlying hu, sizeOf, typeInfo, hi1, hi2, e, g1]
theorem rd_buildA {T n e sz : Nat} {parts : Array (Nat × Operand)} {zl : List Value} {qs : List (Nat × List AV)} {cs : List AV} (ho : o.op = .build T parts) (hT : arT P T = some (n, e, sz)) (hz : zeroC P T = some zl) (hq : partsA t st parts.toList = some qs) (hf : fillA (fun i => some (i * sz, sz)) (zl.map .sc) qs = some cs) : ARd P o t st (.ag cs) := (rdP_buildA ho hT hz hq hf).rd
end
section
variable {P : Program} {ops : Array Oper} {K : List AV → List TK → Prop} {l : List Oper} {t : List AV} {st : List TK} {Q : APost} {c : Code} {fuel : Nat} {listed : Array Bool}
theorem live_own {k g el sz : Nat} {xs : List (List AV)} (hk : st[k]? = some ⟨g, .own el sz xs⟩) : liveA st (.ow k g) = true := by simp [liveA, hk, TC.isO]
theorem live_nown {k g el sz : Nat} (hk : st[k]? = some ⟨g, .nown el sz⟩) : liveA st (.ow k g) = true := by simp [liveA, hk, TC.isO]
theorem resO_bx {n k g o : Nat} {c : TC} (hn : k < n) (hk : st[k]? = some ⟨g, c⟩) (hc : c.isB = true := by rfl) : resO1 n st (.bx k g o) = some (.bx k g o) := by
  simp [resO1, nz, resO0, hn, liveA, hk, hc]
theorem resO_own {n k g el sz : Nat} {xs : List (List AV)} (hn : k < n) (hk : st[k]? = some ⟨g, .own el sz xs⟩) : resO1 n st (.ow k g) = some (.ow k g) := by
  simp [resO1, nz, resO0, hn, liveA, hk, TC.isO]
theorem resO_owM {n k g el sz : Nat} {b : Bool} {xs : List (List AV)} (hn : k < n) (hk : st[k]? = some ⟨g, owM b el sz xs⟩) : resO1 n st (.ow k g) = some (.ow k g) := by
  simp [resO1, nz, resO0, hn, liveA, hk, isO_owM]
theorem resO_set {n k g el sz : Nat} {xs : List (List AV)} (hn : n ≤ k) (hk : st[k]? = some ⟨g, .own el sz xs⟩) : resO1 n st (.ow k g) = some (.sl xs) := by
  simp [resO1, nz, resO0, Nat.not_lt.2 hn, set0, hk]
theorem resO_setM {n k g el sz : Nat} {b : Bool} {xs : List (List AV)} (hn : n ≤ k) (hk : st[k]? = some ⟨g, owM b el sz xs⟩) : resO1 n st (.ow k g) = some (.sl xs) := by
  cases xs <;> cases b <;> simp [resO1, nz, resO0, Nat.not_lt.2 hn, set0, hk, owM]
theorem thenA_ret {R : List AV → List TK → Prop} (h : Q .ret t st) : thenA R Q .ret t st := h
theorem inBlockA_ret {id : Nat} (h : Q .ret t st) : inBlockA id Q .ret t st := h
theorem retO_ret {fn : Func} {n : Nat} {R : AV → List TK → Prop} (h : ResO P fn n R t st) : retO P fn n R .ret t st := h
theorem retO_normal {fn : Func} {n : Nat} {R : AV → List TK → Prop} (h : ResO P fn n R t st) : retO P fn n R .normal t st := h
theorem renC_box {ks : List Nat} {ty : TypeId} {cs : List AV} : renC ks (.box ty cs) = .box ty (cs.map (ren0 ks)) := rfl
theorem renC_own {ks : List Nat} {el sz : Nat} {xs : List (List AV)} : renC ks (.own el sz xs) = .own el sz xs := rfl
theorem renC_nown {ks : List Nat} {el sz : Nat} : renC ks (.nown el sz) = .nown el sz := rfl
theorem renC_obj {ks : List Nat} {p : OP} : renC ks (.obj p) = .obj p := rfl
theorem renC_off {ks : List Nat} : renC ks .off = .off := rfl
theorem AL.no {t' : List AV} {st' : List TK} (h : AL P ops K l t' st') (ht : t = t' := by (try simp only [putA, evA, List.getD_cons_zero, List.getD_cons_succ, List.set_cons_zero, List.set_cons_succ, List.length_map, KR, splA, List.map_cons, List.map_nil, List.length_append, List.length_cons, List.length_nil, List.drop_zero, csS_len, csS_take, csS_drop, csS_app, byA_len, byA_take, byA_drop, byA_app, ← List.map_take, ← List.map_drop, ← List.map_append, List.take_succ_cons, List.take_zero, List.drop_succ_cons, List.cons_append, List.nil_append, Nat.zero_add, Nat.reduceAdd, Nat.reduceMul, Nat.add_zero, Nat.mul_one, putT, renT, renC_owM, renC_box, renC_own, renC_nown, renC_obj, renC_off, ren2, ren1, ren0, ok1, ok2]); (try rfl)) (hs : st = st' := by (try simp only [putA, evA, List.getD_cons_zero, List.getD_cons_succ, List.set_cons_zero, List.set_cons_succ, List.length_map, KR, splA, List.map_cons, List.map_nil, List.length_append, List.length_cons, List.length_nil, List.drop_zero, csS_len, csS_take, csS_drop, csS_app, byA_len, byA_take, byA_drop, byA_app, ← List.map_take, ← List.map_drop, ← List.map_append, List.take_succ_cons, List.take_zero, List.drop_succ_cons, List.cons_append, List.nil_append, Nat.zero_add, Nat.reduceAdd, Nat.reduceMul, Nat.add_zero, Nat.mul_one, putT, renT, renC_owM, renC_box, renC_own, renC_nown, renC_obj, renC_off, ren2, ren1, ren0, ok1, ok2]); (try rfl)) : AL P ops K l t st := by subst ht hs; exact h
theorem ADB.n {t' : List AV} {st' : List TK} (h : ADB P l K fuel listed t' st') (ht : t = t' := by (try simp only [putA, evA, List.getD_cons_zero, List.getD_cons_succ, List.set_cons_zero, List.set_cons_succ, List.length_map, KR, splA, List.map_cons, List.map_nil, List.length_append, List.length_cons, List.length_nil, List.drop_zero, csS_len, csS_take, csS_drop, csS_app, byA_len, byA_take, byA_drop, byA_app, ← List.map_take, ← List.map_drop, ← List.map_append, List.take_succ_cons, List.take_zero, List.drop_succ_cons, List.cons_append, List.nil_append, Nat.zero_add, Nat.reduceAdd, Nat.reduceMul, Nat.add_zero, Nat.mul_one, putT, renT, renC_owM, renC_box, renC_own, renC_nown, renC_obj, renC_off, ren2, ren1, ren0, ok1, ok2]); (try rfl)) (hs : st = st' := by (try simp only [putA, evA, List.getD_cons_zero, List.getD_cons_succ, List.set_cons_zero, List.set_cons_succ, List.length_map, KR, splA, List.map_cons, List.map_nil, List.length_append, List.length_cons, List.length_nil, List.drop_zero, csS_len, csS_take, csS_drop, csS_app, byA_len, byA_take, byA_drop, byA_app, ← List.map_take, ← List.map_drop, ← List.map_append, List.take_succ_cons, List.take_zero, List.drop_succ_cons, List.cons_append, List.nil_append, Nat.zero_add, Nat.reduceAdd, Nat.reduceMul, Nat.add_zero, Nat.mul_one, putT, renT, renC_owM, renC_box, renC_own, renC_nown, renC_obj, renC_off, ren2, ren1, ren0, ok1, ok2]); (try rfl)) : ADB P l K fuel listed t st := by subst ht hs; exact h
theorem ADA.r {o : Oper} {x : AV} {t' : List AV} (i : Nat) (hi : l[i]? = some o) (h : ARdA P o t st x) (hw : WantA l.toArray o t true) (hk : ADA P l K fuel (listed.setIfInBounds i true) t' st) (ht : putA t o.dst x = t' := by (try simp only [putA, evA, List.getD_cons_zero, List.getD_cons_succ, List.set_cons_zero, List.set_cons_succ, List.length_map, KR, splA, List.map_cons, List.map_nil, List.length_append, List.length_cons, List.length_nil, List.drop_zero, csS_len, csS_take, csS_drop, csS_app, byA_len, byA_take, byA_drop, byA_app, ← List.map_take, ← List.map_drop, ← List.map_append, List.take_succ_cons, List.take_zero, List.drop_succ_cons, List.cons_append, List.nil_append, Nat.zero_add, Nat.reduceAdd, Nat.reduceMul, Nat.add_zero, Nat.mul_one, putT, renT, renC_owM, renC_box, renC_own, renC_nown, renC_obj, renC_off, ren2, ren1, ren0, ok1, ok2]); (try rfl)) (hs : Region.noSelect l.toArray = true := by kernel_rfl) (hf : Region.free .any l.toArray listed i = true := by kernel_rfl) (hr : (Region.ready .any l.toArray listed).contains i = true := by kernel_rfl) : ADA P l K (fuel + 1) listed t st := by subst ht; exact ADA.take i hi hs hf hr hw h hk
theorem ADB.r {o : Oper} {x : AV} {t' : List AV} (i : Nat) (hi : l[i]? = some o) (h : ARdP P o t st x) (hw : WantA l.toArray o t true) (hk : ADB P l K fuel (listed.setIfInBounds i true) t' st) (ht : putA t o.dst x = t' := by (try simp only [putA, evA, List.getD_cons_zero, List.getD_cons_succ, List.set_cons_zero, List.set_cons_succ, List.length_map, KR, splA, List.map_cons, List.map_nil, List.length_append, List.length_cons, List.length_nil, List.drop_zero, csS_len, csS_take, csS_drop, csS_app, byA_len, byA_take, byA_drop, byA_app, ← List.map_take, ← List.map_drop, ← List.map_append, List.take_succ_cons, List.take_zero, List.drop_succ_cons, List.cons_append, List.nil_append, Nat.zero_add, Nat.reduceAdd, Nat.reduceMul, Nat.add_zero, Nat.mul_one, putT, renT, renC_owM, renC_box, renC_own, renC_nown, renC_obj, renC_off, ren2, ren1, ren0, ok1, ok2]); (try rfl)) (hs : Region.noSelect l.toArray = true := by kernel_rfl) (hf : Region.free .any l.toArray listed i = true := by kernel_rfl) (hr : (Region.ready .any l.toArray listed).contains i = true := by kernel_rfl) : ADB P l K (fuel + 1) listed t st := by subst ht; exact ADB.take i hi hs hf hr hw h hk
theorem ADB.s {o : Oper} {t' : List AV} (i : Nat) (hi : l[i]? = some o) (hw : WantA l.toArray o t false) (hk : ADB P l K fuel (listed.setIfInBounds i true) t' st) (ht : putA t o.dst (.sc undef) = t' := by (try simp only [putA, evA, List.getD_cons_zero, List.getD_cons_succ, List.set_cons_zero, List.set_cons_succ, List.length_map, KR, splA, List.map_cons, List.map_nil, List.length_append, List.length_cons, List.length_nil, List.drop_zero, csS_len, csS_take, csS_drop, csS_app, byA_len, byA_take, byA_drop, byA_app, ← List.map_take, ← List.map_drop, ← List.map_append, List.take_succ_cons, List.take_zero, List.drop_succ_cons, List.cons_append, List.nil_append, Nat.zero_add, Nat.reduceAdd, Nat.reduceMul, Nat.add_zero, Nat.mul_one, putT, renT, renC_owM, renC_box, renC_own, renC_nown, renC_obj, renC_off, ren2, ren1, ren0, ok1, ok2]); (try rfl)) (hs : Region.noSelect l.toArray = true := by kernel_rfl) (hf : Region.free .any l.toArray listed i = true := by kernel_rfl) (hr : (Region.ready .any l.toArray listed).contains i = true := by kernel_rfl) : ADB P l K (fuel + 1) listed t st := by subst ht; exact ADB.skip i hi hs hf hr hw hk
theorem isO_own {el sz : Nat} {xs : List (List AV)} : TC.isO (.own el sz xs) = true := rfl
theorem isO_nown {el sz : Nat} : TC.isO (.nown el sz) = true := rfl
theorem cle_owM {os : List TK} {g el sz : Nat} {b : Bool} {xs : List (List AV)} : cleanT os ⟨g, owM b el sz xs⟩ = true := by cases xs <;> cases b <;> rfl
theorem cle_own {os : List TK} {g el sz : Nat} {xs : List (List AV)} : cleanT os ⟨g, .own el sz xs⟩ = true := rfl
theorem cle_nown {os : List TK} {g el sz : Nat} : cleanT os ⟨g, .nown el sz⟩ = true := rfl
theorem cle_obj {os : List TK} {g : Nat} {p : OP} : cleanT os ⟨g, .obj p⟩ = true := rfl
theorem cle_off {os : List TK} {g : Nat} : cleanT os ⟨g, .off⟩ = true := rfl
theorem cle_box {os : List TK} {g : Nat} {ty : TypeId} {cs : List AV} : cleanT os ⟨g, .box ty cs⟩ = cs.all (okC os) := rfl
end
theorem code_of (n : Nat) (S : Nat → Prop) (h : ∀ b, S b → b < n) : ∃ c : Nat, ∀ b, c.testBit b = true ↔ S b := by
  classical
  induction n generalizing S with
  | zero => exact ⟨0, fun b => ⟨fun hb => by simp at hb, fun hb => absurd (h b hb) (by omega)⟩⟩
  | succ n ih =>
    obtain ⟨c, hc⟩ := ih (fun b => S b ∧ b ≠ n) (fun b hb => by have := h b hb.1; omega)
    by_cases hn : S n
    · refine ⟨c ||| 2 ^ n, fun b => ?_⟩; rw [Nat.testBit_or, Bool.or_eq_true, hc, Nat.testBit_two_pow, decide_eq_true_eq]
      constructor
      · rintro (h1 | rfl)
        · exact h1.1
        exact hn
      intro hb
      by_cases e : b = n
      · exact .inr e.symm
      exact .inl ⟨hb, e⟩
    refine ⟨c, fun b => ?_⟩; rw [hc]; exact ⟨fun h1 => h1.1, fun hb => ⟨hb, fun e => hn (e ▸ hb)⟩⟩
theorem Rep.mvF {F F' : Nat → Prop} {ρ : Loc} {st : List TK} {w w' : World} {v : Value} {x : AV} (h : Rep F ρ st w v x) (m : ∀ b o, Free F ρ st b → w.heap[b]? = some o → Free F' ρ st b ∧ w'.heap[b]? = some o) : Rep F' ρ st w' v x := by
  induction h with
  | any v => exact .any v
  | s h => exact .s (h.mv m)
  | ow k g el sz xs h => exact .ow k g el sz xs h
  | ow0 k g el sz h => exact .ow0 k g el sz h
  | owd k g v h => exact .owd k g v h
  | bx k g off ty cs h => exact .bx k g off ty cs h
  | ob k g off p h => exact .ob k g off p h
  | bo k g off el sz xs h => exact .bo k g off el sz xs h
  | bxd k g off v h => exact .bxd k g off v h
  | ep b base off cs V h0 hf hv h1 hr =>
    obtain ⟨o, ho⟩ := blk_of_cell (hv 0 h0)
    obtain ⟨h2, h3⟩ := m b o hf ho
    exact .ep b base off cs V h0 h2 (fun j hj => cell_same (hv j hj) ho h3) h1 fun j x hx => (hr j x hx).mv m
  | ag vs cs hs h1 hr ih => exact .ag vs cs hs h1 ih
  | tu vs cs hs hr ih => exact .tu vs cs hs ih
  | fn f vs cs hs hr ih => exact .fn f vs cs hs ih
def footS (ρ : Loc) (os : List TK) (b : Nat) : Prop := ∃ k tk, os[k]? = some tk ∧ foot ρ k tk.c b
def CluR (os : List TK) (F : Nat → Prop) (w : World) (r : Nat) (ft : Nat → Prop) : Prop :=
  ∃ ρ : Loc, St (fun b => F b ∨ ft b) ρ os ⟨w, ρ, os⟩ w ∧ (ρ 0).1 = r ∧ cleanS os = true ∧ ∀ b, ft b ↔ footS ρ os b
theorem CluR.stab {os : List TK} {F F' : Nat → Prop} {w w' : World} {r : Nat} {ft : Nat → Prop} (h : CluR os F w r ft) (hsz : w.heap.size ≤ w'.heap.size) (hfr : ∀ b, w'.heap.size ≤ b → F' b) (hF : ∀ b o, F b → w.heap[b]? = some o → F' b ∧ w'.heap[b]? = some o) (hft : ∀ b, ft b → w'.heap[b]? = w.heap[b]?) : CluR os F' w' r ft := by
  obtain ⟨ρ, hs, hr, hc, hf⟩ := h
  have free : ∀ b o, Free (fun b => F b ∨ ft b) ρ os b → w.heap[b]? = some o → Free (fun b => F' b ∨ ft b) ρ os b ∧ w'.heap[b]? = some o := fun b o ⟨h1, h2⟩ ho => by
    have hn : ¬ ft b := fun e => by obtain ⟨k, tk, a1, a2⟩ := (hf b).1 e; exact h2 k tk a1 a2
    obtain ⟨h3, h4⟩ := hF b o (h1.resolve_right hn) ho
    exact ⟨⟨.inl h3, h2⟩, h4⟩
  have same : ∀ k tk b, os[k]? = some tk → foot ρ k tk.c b → w'.heap[b]? = w.heap[b]? := fun k tk b h1 h2 => hft b ((hf b).2 ⟨k, tk, h1, h2⟩)
  refine ⟨ρ, ⟨Bel.refl ⟨w', ρ, os⟩, fun b hb => .inl (hfr b hb), fun k g ty cs hk => ?_, fun k g el sz xs hk => ?_, fun k g p hk => ?_, fun k tk b hk hb => ?_, hs.inj, fun k tk0 h => ⟨tk0, h, .inl ⟨rfl, rfl⟩⟩⟩, hr, hc, hf⟩
  · obtain ⟨vs, h1, h2, h3, h4⟩ := hs.box k g ty cs hk
    exact ⟨vs, (same k _ _ hk rfl).trans h1, h2, h3, fun j v x hv hx => (h4 j v x hv hx).mvF free⟩
  · obtain ⟨vs, h1, h2, h3, h4, h5⟩ := hs.own k g el sz xs hk
    exact ⟨vs, own_keep' h1 fun g' hg => by injection hg with hg; subst hg; exact same k _ _ hk rfl, h2, h3, h4, fun i j cs v x a b c => (h5 i j cs v x a b c).mv free⟩
  · exact p.stab (hs.obj k g p hk) hsz (fun b hb => ⟨.inl (hfr b hb), fun j tk hj hf' => by have := (hs.ge j tk b hj hf').2; omega⟩) free (fun b hb => same k _ b hk hb)
  exact ⟨⟨.inr ⟨k, tk, hk, hb⟩, .inr ((hf b).2 ⟨k, tk, hk, hb⟩)⟩, Nat.lt_of_lt_of_le (hs.ge k tk b hk hb).2 hsz⟩
def CluP (D : List TK → Prop) : OP := ⟨fun F w r ft => ∃ os, D os ∧ CluR os F w r ft, fun ⟨os, hD, h⟩ h1 h2 h3 h4 => ⟨os, hD, h.stab h1 h2 h3 h4⟩⟩
def clo0 : AV → Bool
  | .sc _ => true
  | .sl _ => true
  | _ => false
def clo1 : AV → Bool
  | .ag cs => cs.all clo0
  | x => clo0 x
def clo2 : AV → Bool
  | .tu vs => vs.all clo1
  | x => clo1 x
section
variable {F F' : Nat → Prop} {ρ ρ' : Loc} {st st' os : List TK} {w : World} {v : Value} {x : AV}
theorem clo0_on (hf : ∀ b, Free F ρ st b → Free F' ρ' st' b) (hx : clo0 x = true) (h : Rep F ρ st w v x) : Rep F' ρ' st' w v x := by
  cases x with
  | sc u => cases h with | s h => exact .s (h.mono fun b _ hb => hf b hb)
  | sl xs => exact .s (h.sl_s.mono fun b _ hb => hf b hb)
  | _ => simp [clo0] at hx
theorem clo1_on (hf : ∀ b, Free F ρ st b → Free F' ρ' st' b) (hx : clo1 x = true) (h : Rep F ρ st w v x) : Rep F' ρ' st' w v x := by
  cases x with
  | ag cs =>
    obtain ⟨vs, rfl, h1, h2, h3⟩ := h.ag_inv
    have hx' : ∀ y ∈ cs, clo0 y = true := by simpa [clo1] using hx
    exact .ag vs cs h1 h2 fun j v y hv hy => clo0_on hf (hx' y (List.mem_of_getElem? hy)) (h3 j v y hv hy)
  | _ => exact clo0_on hf hx h
theorem clo2_on (hf : ∀ b, Free F ρ st b → Free F' ρ' st' b) (hx : clo2 x = true) (h : Rep F ρ st w v x) : Rep F' ρ' st' w v x := by
  cases x with
  | tu cs =>
    obtain ⟨vs, rfl, h1, h3⟩ := h.tu_inv
    have hx' : ∀ y ∈ cs, clo1 y = true := by simpa [clo2] using hx
    exact .tu vs cs h1 fun j v y hv hy => clo1_on hf (hx' y (List.mem_of_getElem? hy)) (h3 j v y hv hy)
  | _ => exact clo1_on hf hx h
theorem clo0_ok (hx : clo0 x = true) : okC os x = true := by cases x <;> simp_all [clo0, okC]
theorem clo1_ok (hx : clo1 x = true) : ok1 os x = true := by
  cases x with
  | ag cs => simp only [clo1, ok1, List.all_eq_true] at *; exact fun y hy => clo0_ok (hx y hy)
  | _ => simp_all [clo1, ok1, clo0, okC]
theorem clo2_ok (hx : clo2 x = true) : ok2 os x = true := by
  cases x with
  | tu cs => simp only [clo2, ok2, List.all_eq_true] at *; exact fun y hy => clo1_ok (hx y hy)
  | ag cs => exact clo1_ok (x := .ag cs) hx
  | _ => simp_all [clo2, ok2, clo1, ok1, clo0, okC]
theorem one_F {G : Nat} {p : OP} {w0 : Bs} (hs : ∀ b, foot ρ 0 (.obj p) b → F b) : (fun b => Free F ρ [⟨G, .obj p⟩] b ∨ foot ρ 0 (.obj p) b) = F := by
  funext b
  apply propext
  constructor
  · rintro (h | h)
    · exact h.1
    exact hs b h
  intro h
  by_cases e : foot ρ 0 (.obj p) b
  · exact .inr e
  refine .inl ⟨h, fun k tk hk hf => ?_⟩
  cases k with
  | zero => simp at hk; subst hk; exact e hf
  | succ k => simp at hk
end
theorem one_obj {F : Nat → Prop} {ρ1 ρ2 : Loc} {os os' : List TK} {w w' : World} {G : Nat} {W : Bs} {D : List TK → Prop} (hW : W.w = w) (hM : ∀ b, (⟨w, ρ1, os⟩ : Bs).M b → W.M b) (hs : St F ρ2 os' ⟨w, ρ1, os⟩ w') (hc : cleanS os' = true) (hD : D os') (hh : ∀ c : Nat, ∀ (k : Nat) (tk0 : TK), W.os[k]? = some tk0 → ∃ tk, [TK.mk G (.obj (CluP D))][k]? = some tk ∧ TkR tk0 (W.ρ k) tk ((ρ2 0).1, c)) :
    ∃ ρ3 : Loc, (ρ3 0).1 = (ρ2 0).1 ∧ St F ρ3 [⟨G, .obj (CluP D)⟩] W w' ∧ ∀ b, Free F ρ2 os' b → Free F ρ3 [⟨G, .obj (CluP D)⟩] b := by
  obtain ⟨c, hcode⟩ := code_of w'.heap.size (footS ρ2 os') (fun b ⟨k, tk, h1, h2⟩ => (hs.ge k tk b h1 h2).2)
  have hfo : ∀ b, foot (fun _ => ((ρ2 0).1, c)) 0 (.obj (CluP D)) b ↔ footS ρ2 os' b := hcode
  have hF : ∀ b, foot (fun _ => ((ρ2 0).1, c)) 0 (.obj (CluP D)) b → F b := fun b hb => by
    obtain ⟨k, tk, h1, h2⟩ := (hfo b).1 hb
    exact (hs.ge k tk b h1 h2).1.2
  refine ⟨fun _ => ((ρ2 0).1, c), rfl, ⟨?_, hs.fresh, fun k g ty cs hk => ?_, fun k g el sz xs hk => ?_, fun k g p hk => ?_, fun k tk b hk hb => ?_, fun k tk k' tk' b hk hb hk' hb' => ?_, hh c⟩, fun b hb => ⟨hb.1, fun k tk hk hf => ?_⟩⟩
  · refine ⟨?_, ?_, ?_, ?_, fun b hb hM' => ?_⟩
    · rw [hW]; exact hs.below.os
    · rw [hW]; exact hs.below.tape
    · rw [hW]; exact hs.below.output
    · rw [hW]; exact hs.below.size
    rw [hW] at hb ⊢
    exact hs.below.block b hb fun h => hM' (hM b h)
  · cases k with
    | zero => simp at hk
    | succ k => simp at hk
  · cases k with
    | zero => simp at hk
    | succ k => simp at hk
  · cases k with
    | zero =>
      simp at hk
      obtain ⟨rfl, rfl⟩ := hk
      refine ⟨os', hD, ρ2, ?_, rfl, hc, hfo⟩; rw [one_F (w0 := W) hF]; exact hs.self
    | succ k => simp at hk
  · cases k with
    | zero =>
      simp at hk
      subst hk
      obtain ⟨j, tk, h1, h2⟩ := (hfo b).1 hb
      have h3 := hs.ge j tk b h1 h2
      refine ⟨⟨?_, h3.1.2⟩, h3.2⟩; rw [hW]; exact h3.1.1.imp id (hM b)
    | succ k => simp at hk
  · cases k with
    | zero =>
      cases k' with
      | zero => rfl
      | succ k' => simp at hk'
    | succ k => simp at hk
  cases k with
  | zero =>
    simp at hk
    subst hk
    obtain ⟨j, tk, h1, h2⟩ := (hfo b).1 hf
    exact hb.2 j tk h1 h2
  | succ k => simp at hk
section
variable {P : Program} {f : FuncId}
theorem ACo.obj {rest : List AV} {D : List TK → Prop} {G : Nat} {R : AV → List TK → Prop} (hrest : rest.all clo1 = true)
    (hC : ∀ os, D os → ∃ g c0 R0, os[0]? = some ⟨g, c0⟩ ∧ c0.isB = true ∧ ACo P f (.bx 0 g 0 :: rest) os R0 ∧ ∀ y os', R0 y os' → ∃ D' c1, clo2 y = true ∧ D' os' ∧ os'[0]? = some ⟨g, c1⟩ ∧ c1.isB = true ∧ R y [⟨G, .obj (CluP D')⟩]) : ACo P f (.bx 0 G 0 :: rest) [⟨G, .obj (CluP D)⟩] R := fun F ρ w vs hsz hs hr => by
  obtain ⟨os, hD, ρ1, hs1, hroot, hcl, hft⟩ := hs.obj 0 G (CluP D) rfl
  have hFF : ∀ b, foot ρ 0 (.obj (CluP D)) b → F b := fun b hb => (hs.ge 0 _ b rfl hb).1.2
  rw [one_F (w0 := ⟨w, ρ, []⟩) hFF] at hs1
  obtain ⟨g, c0, R0, h0, hB, hC', hR⟩ := hC os hD
  have hfree : ∀ b, Free F ρ [⟨G, .obj (CluP D)⟩] b → Free F ρ1 os b := fun b hb => ⟨hb.1, fun k tk hk hf => hb.2 0 _ rfl ((hft b).2 ⟨k, tk, hk, hf⟩)⟩
  refine (hC' F ρ1 w vs (by simpa using hsz) hs1 (fun j v x hv hx => ?_)).mono fun e w' ⟨v, y, ρ2, os', he, hs2, hl, hcl', hok, hrep, hR0⟩ => ?_
  · cases j with
    | zero =>
      simp at hx
      subst hx
      rw [(hr 0 v (.bx 0 G 0) hv rfl).bx_invB (c := .obj (CluP D)) rfl rfl, ← hroot]
      exact .ptr h0 rfl hB
    | succ j =>
      have hx' : rest[j]? = some x := by simpa using hx
      have hc : clo1 x = true := by rw [List.all_eq_true] at hrest; exact hrest x (List.mem_of_getElem? hx')
      exact clo1_on hfree hc (hr (j + 1) v x hv (by simpa using hx'))
  obtain ⟨D', c1, hy, hD', h0', hB', hRR⟩ := hR y os' hR0
  have hroot2 : (ρ2 0).1 = (ρ1 0).1 := by
    obtain ⟨tk, a1, a2⟩ := hs2.hist 0 _ h0
    rw [h0'] at a1
    injection a1 with a1
    subst a1
    rcases a2 with ⟨_, a2⟩ | a2 | ⟨_, a2⟩ | ⟨_, a2, _⟩
    · exact congrArg Prod.fst a2
    · exact absurd a2 (Nat.lt_irrefl _)
    · simp only at a2; subst a2; cases hB'
    exact a2
  obtain ⟨ρ3, e3, hs3, hf3⟩ := one_obj (G := G) (W := ⟨w, ρ, [⟨G, .obj (CluP D)⟩]⟩) (D := D') rfl (fun b ⟨k, tk, h1, h2⟩ => ⟨0, _, rfl, (hft b).2 ⟨k, tk, h1, h2⟩⟩) hs2 hcl' hD' (fun c k tk0 hk => by
    cases k with
    | zero =>
      simp at hk
      subst hk
      exact ⟨_, rfl, .inr (.inr (.inr ⟨rfl, by show (ρ2 0).1 = (ρ 0).1; rw [hroot2, hroot], rfl, rfl⟩))⟩
    | succ k => simp at hk)
  exact ⟨v, y, ρ3, _, he, hs3, rfl, rfl, clo2_ok hy, clo2_on hf3 hy hrep, hRR⟩
end
end Go.Proofs.Ytlapcfnmmpbeeaa
