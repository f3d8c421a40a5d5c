/- Abstract states: what the slots of a frame hold as data, and which blocks are the call's own; how they stand to the model's states. No conditions. -/
import Derived.Test.YtfnpgaiaebkkmaaReg
namespace Go.Proofs.Ytfnpgaiaebkkmaa
set_option linter.unusedSimpArgs false
set_option linter.unusedVariables false
open Go.RowKit

/-- What a slot holds: a plain value; a slice that can be read, its elements as cells; an own slice (ticket, generation); a pointer into an own box; a pointer to an element that can be read; a struct or array; several results; whatever. -/
inductive AV where
  | sc (v : Value)
  | sl (xs : List (List AV))
  | ow (k g : Nat)
  | bx (k g off : Nat)
  | ep (cs : List AV) (off : Nat)
  | ag (cs : List AV)
  | tu (vs : List AV)
  | any
/-- A ticket's block: none; a box; a slice's row, that grows; a slice that is nil and will grow. -/
inductive TC where
  | off
  | box (ty : TypeId) (cs : List AV)
  | own (el : TypeId) (sz : Nat) (xs : List (List AV))
  | nown (el : TypeId) (sz : Nat)
/-- It has a block. -/
def TC.blk : TC → Prop
  | .box _ _ => True
  | .own _ _ _ => True
  | _ => False
@[simp] theorem blk_box {ty : TypeId} {cs : List AV} : (TC.box ty cs).blk := trivial
@[simp] theorem blk_own {el : TypeId} {sz : Nat} {xs : List (List AV)} : (TC.own el sz xs).blk := trivial
structure TK where
  g : Nat
  c : TC

/-- Data that lies in blocks of F and is not written any more. -/
inductive RepS (F : Nat → Prop) (w : World) : Value → AV → Prop
  | sc (v : Value) : RepS F w v (.sc v)
  | sl0 (A : Option Addr) (c : Nat) (hc : c ≤ maxLen) : RepS F w (.slice A 0 c) (.sl [])
  | sl1 (b off n c sz : Nat) (V : Nat → Nat → Value) (xs : List (List AV)) (hn : xs.length = n) (h0 : 0 < n) (hnc : n ≤ c) (hc : c ≤ maxLen) (hsz : 0 < sz) (hf : F b)
      (hl : ∀ (i : Nat) (cs : List AV), xs[i]? = some cs → cs.length = sz) (hv : ∀ i j, i < n → j < sz → w.cell? ⟨b, off + (i * sz + j), none⟩ = some (V i j)) (h1 : ∀ i j, (V i j).oneCell' = true)
      (hr : ∀ (i j : Nat) (cs : List AV) x, xs[i]? = some cs → cs[j]? = some x → RepS F w (V i j) x) : RepS F w (.slice (some ⟨b, off, none⟩) n c) (.sl xs)
  | ag (vs : Array Value) (cs : List AV) (hs : vs.size = cs.length) (h1 : ∀ v ∈ vs, v.oneCell' = true) (hr : ∀ (j : Nat) v x, vs[j]? = some v → cs[j]? = some x → RepS F w v x) : RepS F w (.agg vs) (.ag cs)
  | tu (vs : Array Value) (cs : List AV) (hs : vs.size = cs.length) (hr : ∀ (j : Nat) v x, vs[j]? = some v → cs[j]? = some x → RepS F w v x) : RepS F w (.tuple vs) (.tu cs)

theorem blk_of_cell {w : World} {b o : Nat} {v : Value} (h : w.cell? ⟨b, o, none⟩ = some v) : ∃ x, w.heap[b]? = some x := by
  have hlt : b < w.heap.size := block_lt_of_cell h
  exact ⟨_, Array.getElem?_eq_getElem hlt⟩
theorem cell_same {w w' : World} {b o : Nat} {v : Value} {x : Obj} (h : w.cell? ⟨b, o, none⟩ = some v) (h1 : w.heap[b]? = some x) (h2 : w'.heap[b]? = some x) : w'.cell? ⟨b, o, none⟩ = some v := by
  rw [← h]
  exact World.cell?_of_block (h2.trans h1.symm)
theorem RepS.mv {F F' : Nat → Prop} {w w' : World} {v : Value} {x : AV} (h : RepS F w v x) (m : ∀ b o, F b → w.heap[b]? = some o → F' b ∧ w'.heap[b]? = some o) : RepS F' w' v x := by
  induction h with
  | sc v => exact .sc v
  | sl0 A c hc => exact .sl0 A c hc
  | sl1 b off n c sz V xs hn h0 hnc hc hsz hf hl hv h1 hr ih =>
    obtain ⟨o, ho⟩ := blk_of_cell (hv 0 0 h0 hsz)
    obtain ⟨h2, h3⟩ := m b o hf ho
    exact .sl1 b off n c sz V xs hn h0 hnc hc hsz h2 hl (fun i j hi hj => cell_same (hv i j hi hj) ho h3) h1 ih
  | ag vs cs hs h1 hr ih => exact .ag vs cs hs h1 ih
  | tu vs cs hs hr ih => exact .tu vs cs hs ih
theorem RepS.grow {F : Nat → Prop} {w w' : World} {v : Value} {x : AV} (h : RepS F w v x) (hb : Below w.heap.size w w') : RepS F w' v x :=
  h.mv fun b _ hf ho => ⟨hf, (hb.block b (Array.getElem?_eq_some_iff.1 ho).1).trans ho⟩
theorem RepS.mono {F F' : Nat → Prop} {w : World} {v : Value} {x : AV} (h : RepS F w v x) (m : ∀ b, b < w.heap.size → F b → F' b) : RepS F' w v x :=
  h.mv fun b _ hf ho => ⟨m b (Array.getElem?_eq_some_iff.1 ho).1 hf, ho⟩

/-- Where the tickets' blocks lie, and an own slice's capacity. -/
abbrev Loc := Nat → Nat × Nat
def Free (F : Nat → Prop) (ρ : Loc) (st : List TK) (b : Nat) : Prop := F b ∧ ∀ k tk, st[k]? = some tk → tk.c.blk → (ρ k).1 ≠ b
def Stale (st : List TK) (k g : Nat) : Prop := ∃ tk, st[k]? = some tk ∧ (g < tk.g ∨ (g = tk.g ∧ tk.c = .off))

inductive Rep (F : Nat → Prop) (ρ : Loc) (st : List TK) (w : World) : Value → AV → Prop
  | any (v : Value) : Rep F ρ st w v .any
  | s {v : Value} {x : AV} (h : RepS (Free F ρ st) w v x) : Rep F ρ st w v x
  | ow (k g : Nat) (el : TypeId) (sz : Nat) (xs : List (List AV)) (h : st[k]? = some ⟨g, .own el sz xs⟩) : Rep F ρ st w (.slice (some ⟨(ρ k).1, 0, none⟩) xs.length (ρ k).2) (.ow k g)
  | ow0 (k g : Nat) (el : TypeId) (sz : Nat) (h : st[k]? = some ⟨g, .nown el sz⟩) : Rep F ρ st w (.slice none 0 0) (.ow k g)
  | owd (k g : Nat) (v : Value) (h : Stale st k g) : Rep F ρ st w v (.ow k g)
  | bx (k g off : Nat) (ty : TypeId) (cs : List AV) (h : st[k]? = some ⟨g, .box ty cs⟩) : Rep F ρ st w (.pointer (some ⟨(ρ k).1, off, none⟩)) (.bx k g off)
  | bxd (k g off : Nat) (v : Value) (h : Stale st k g) : Rep F ρ st w v (.bx k g off)
  | ep (b base off : Nat) (cs : List AV) (V : Nat → Value) (h0 : 0 < cs.length) (hf : Free F ρ st b) (hv : ∀ j, j < cs.length → w.cell? ⟨b, base + j, none⟩ = some (V j)) (h1 : ∀ j, (V j).oneCell' = true)
      (hr : ∀ (j : Nat) x, cs[j]? = some x → RepS (Free F ρ st) w (V j) x) : Rep F ρ st w (.pointer (some ⟨b, base + off, none⟩)) (.ep cs off)
  | ag (vs : Array Value) (cs : List AV) (hs : vs.size = cs.length) (h1 : ∀ v ∈ vs, v.oneCell' = true) (hr : ∀ (j : Nat) v x, vs[j]? = some v → cs[j]? = some x → Rep F ρ st w v x) : Rep F ρ st w (.agg vs) (.ag cs)
  | tu (vs : Array Value) (cs : List AV) (hs : vs.size = cs.length) (hr : ∀ (j : Nat) v x, vs[j]? = some v → cs[j]? = some x → Rep F ρ st w v x) : Rep F ρ st w (.tuple vs) (.tu cs)
theorem Rep.sc {F : Nat → Prop} {ρ : Loc} {st : List TK} {w : World} (v : Value) : Rep F ρ st w v (.sc v) := .s (.sc v)

/-- A step of the run, as values see it. -/
structure Mv (F : Nat → Prop) (ρ : Loc) (st : List TK) (w : World) (ρ' : Loc) (st' : List TK) (w' : World) : Prop where
  free : ∀ b o, Free F ρ st b → w.heap[b]? = some o → Free F ρ' st' b ∧ w'.heap[b]? = some o
  tk : ∀ k tk, st[k]? = some tk → ∃ tk', st'[k]? = some tk' ∧ ((tk' = tk ∧ ρ' k = ρ k) ∨ tk.g < tk'.g ∨ (tk'.g = tk.g ∧ tk'.c = .off) ∨ (tk'.g = tk.g ∧ ρ' k = ρ k ∧ ∃ ty cs cs', tk.c = .box ty cs ∧ tk'.c = .box ty cs'))

section
variable {F : Nat → Prop} {ρ ρ' : Loc} {st st' : List TK} {w w' w0 : World} {v : Value} {x : AV} {a : Act} {t : List AV}
theorem Stale.mv {k g : Nat} (h : Stale st k g) (m : Mv F ρ st w ρ' st' w') : Stale st' k g := by
  obtain ⟨tk, h1, h2⟩ := h
  obtain ⟨tk', h3, h4⟩ := m.tk k tk h1
  refine ⟨tk', h3, ?_⟩
  rcases h4 with ⟨rfl, _⟩ | h4 | ⟨h4, h5⟩ | ⟨h4, _, ty, cs, cs', h5, h6⟩
  · exact h2
  · rcases h2 with h2 | h2
    · exact .inl (by omega)
    · exact .inl (by omega)
  · rcases h2 with h2 | h2
    · exact .inl (by omega)
    · exact .inr ⟨by omega, h5⟩
  · rcases h2 with h2 | h2
    · exact .inl (by omega)
    · rw [h5] at h2; cases h2.2
theorem Rep.mv (h : Rep F ρ st w v x) (m : Mv F ρ st w ρ' st' w') : Rep F ρ' st' w' v x := by
  induction h with
  | any v => exact .any v
  | s h => exact .s (h.mv m.free)
  | ow k g el sz xs h =>
    obtain ⟨tk', h3, h4⟩ := m.tk k _ h
    rcases h4 with ⟨rfl, h5⟩ | h4 | ⟨h4, h5⟩ | ⟨h4, _, ty, cs, cs', h5, h6⟩
    · rw [← h5]; exact .ow k g el sz xs h3
    · exact .owd k g _ ⟨tk', h3, .inl h4⟩
    · exact .owd k g _ ⟨tk', h3, .inr ⟨h4.symm, h5⟩⟩
    · cases h5
  | ow0 k g el sz h =>
    obtain ⟨tk', h3, h4⟩ := m.tk k _ h
    rcases h4 with ⟨rfl, h5⟩ | h4 | ⟨h4, h5⟩ | ⟨h4, _, ty, cs, cs', h5, h6⟩
    · exact .ow0 k g el sz h3
    · exact .owd k g _ ⟨tk', h3, .inl h4⟩
    · exact .owd k g _ ⟨tk', h3, .inr ⟨h4.symm, h5⟩⟩
    · cases h5
  | owd k g v h => exact .owd k g v (h.mv m)
  | bx k g off ty cs h =>
    obtain ⟨tk', h3, h4⟩ := m.tk k _ h
    rcases h4 with ⟨rfl, h5⟩ | h4 | ⟨h4, h5⟩ | ⟨h4, h7, ty', cs1, cs', h5, h6⟩
    · rw [← h5]; exact .bx k g off ty cs h3
    · exact .bxd k g off _ ⟨tk', h3, .inl h4⟩
    · exact .bxd k g off _ ⟨tk', h3, .inr ⟨h4.symm, h5⟩⟩
    · rw [← h7]
      obtain ⟨g', c'⟩ := tk'
      simp at h4 h6
      subst h4 h6
      exact .bx k _ off ty' cs' h3
  | bxd k g off v h => exact .bxd k g off v (h.mv m)
  | ep b base off cs V h0 hf hv h1 hr =>
    obtain ⟨o, ho⟩ := blk_of_cell (hv 0 h0)
    obtain ⟨h2, h3⟩ := m.free b o hf ho
    exact .ep b base off cs V h0 h2 (fun j hj => cell_same (hv j hj) ho h3) h1 fun j x hx => (hr j x hx).mv m.free
  | ag vs cs hs h1 hr ih => exact .ag vs cs hs h1 ih
  | tu vs cs hs hr ih => exact .tu vs cs hs ih

/-- The store stands for the blocks. F: blocks whose data may be read; those that came since w0 are among them. -/
structure St (F : Nat → Prop) (ρ : Loc) (st : List TK) (w0 w : World) : Prop where
  below : Below w0.heap.size w0 w
  fresh : ∀ b, w0.heap.size ≤ b → F b
  box : ∀ k g ty cs, st[k]? = some ⟨g, .box ty cs⟩ → ∃ vs : Array Value, w.heap[(ρ k).1]? = some (.cells vs ty (0, 0)) ∧ vs.size = cs.length ∧ (∀ v ∈ vs, v.oneCell' = true) ∧ ∀ (j : Nat) v x, vs[j]? = some v → cs[j]? = some x → Rep F ρ st w v x
  own : ∀ k g el sz xs, st[k]? = some ⟨g, .own el sz xs⟩ → ∃ vs : List Value, w.ownsRow w0.heap.size el sz (.slice (some ⟨(ρ k).1, 0, none⟩) xs.length (ρ k).2) xs.length vs ∧ 0 < sz ∧ (∀ v ∈ vs, v.oneCell' = true) ∧ (∀ (i : Nat) (cs : List AV), xs[i]? = some cs → cs.length = sz) ∧
    ∀ (i j : Nat) (cs : List AV) v x, xs[i]? = some cs → cs[j]? = some x → vs[i * sz + j]? = some v → RepS (Free F ρ st) w v x
  ge : ∀ k tk, st[k]? = some tk → tk.c.blk → w0.heap.size ≤ (ρ k).1 ∧ (ρ k).1 < w.heap.size
  inj : ∀ k tk k' tk', st[k]? = some tk → tk.c.blk → st[k']? = some tk' → tk'.c.blk → (ρ k).1 = (ρ k').1 → k = k'

/-- A frame stands for slots. -/
structure Fm (F : Nat → Prop) (ρ : Loc) (st : List TK) (w : World) (a : Act) (t : List AV) : Prop where
  defers : a.defers = []
  size : a.tmps.size = t.length
  rep : ∀ (i : Nat) v x, a.tmps[i]? = some v → t[i]? = some x → Rep F ρ st w v x

theorem Fm.mv (h : Fm F ρ st w a t) (m : Mv F ρ st w ρ' st' w') : Fm F ρ' st' w' a t :=
  ⟨h.defers, h.size, fun i v x hv hx => (h.rep i v x hv hx).mv m⟩
def putA (t : List AV) (d : Option Tmp) (x : AV) : List AV := match d with | some d => t.set d x | none => t
theorem Fm.put (h : Fm F ρ st w a t) (d : Option Tmp) (hr : Rep F ρ st w v x) : Fm F ρ st w (a.put d v) (putA t d x) := by
  cases d with
  | none => exact h
  | some d =>
    refine ⟨h.defers, by simp [Act.put, putA, h.size], fun i u y hu hy => ?_⟩
    simp only [Act.put, putA, Array.getElem?_setIfInBounds, List.getElem?_set] at hu hy
    by_cases e : d = i
    · rw [if_pos e] at hu hy
      split at hu
      · rw [if_pos (by rw [← h.size]; assumption)] at hy
        injection hu with hu
        injection hy with hy
        subst hu hy
        exact hr
      · cases hu
    · rw [if_neg e] at hu hy
      exact h.rep i u y hu hy

/-- What an operand holds. -/
def evA (t : List AV) : Operand → AV
  | .tmp i => t.getD i .any
  | .const v => .sc v
  | .global g => .sc (.pointer (some ⟨g, 0, none⟩))
  | .func f => .sc (.func (.func f) #[] #[])
theorem Fm.ev (h : Fm F ρ st w a t) (x : Operand) : Rep F ρ st w (a.eval x) (evA t x) := by
  cases x with
  | tmp i =>
    simp only [Act.eval, evA]
    rcases Nat.lt_or_ge i t.length with hi | hi
    · have h1 : t[i]? = some t[i] := List.getElem?_eq_getElem hi
      have h2 : a.tmps[i]? = some (a.tmps[i]'(by rw [h.size]; exact hi)) := Array.getElem?_eq_getElem (by rw [h.size]; exact hi)
      rw [Array.getD_eq_getD_getElem?, List.getD_eq_getElem?_getD, h1, h2]
      exact h.rep i _ _ h2 h1
    · rw [List.getD_eq_getElem?_getD, List.getElem?_eq_none hi]
      exact .any _
  | const v => exact .sc v
  | global g => exact .sc _
  | func f => exact .sc _
theorem Rep.of_sc {u : Value} (h : Rep F ρ st w v (.sc u)) : v = u := by
  cases h with
  | s h => cases h; rfl

/-- Growth alone. -/
theorem Mv.below (hb : Below w.heap.size w w') : Mv F ρ st w ρ st w' :=
  ⟨fun b o hf h => ⟨hf, (hb.block b (Array.getElem?_eq_some_iff.1 h).1).trans h⟩, fun k tk h => ⟨tk, h, .inl ⟨rfl, rfl⟩⟩⟩
theorem Mv.refl (F : Nat → Prop) (ρ : Loc) (st : List TK) (w : World) : Mv F ρ st w ρ st w := Mv.below (Below.refl _ _)
theorem own_keep' {base : Nat} {el : TypeId} {vs : List Value} {size : Nat} {m : Nat} (h : w.ownsRow base el size v m vs) (hb : ∀ g, v.ownBlock = some g → w'.heap[g]? = w.heap[g]?) : w'.ownsRow base el size v m vs :=
  ⟨h.1, by
    rcases h.2 with ⟨h1, h2⟩ | ⟨g, cap, cur, h1, h2, h3, h4⟩
    · exact .inl ⟨h1, h2⟩
    · subst h1
      exact .inr ⟨g, cap, cur, rfl, h2, (hb g rfl).trans h3, h4⟩⟩
theorem St.grow (h : St F ρ st w0 w) (hb : Below w.heap.size w w') : St F ρ st w0 w' where
  below := h.below.trans (hb.mono h.below.size)
  fresh := h.fresh
  box k g ty cs hk := by
    obtain ⟨vs, h1, h2, h3, h4⟩ := h.box k g ty cs hk
    exact ⟨vs, (hb.block _ (Array.getElem?_eq_some_iff.1 h1).1).trans h1, h2, h3, fun j v x hv hx => (h4 j v x hv hx).mv (Mv.below hb)⟩
  own k g el sz xs hk := by
    obtain ⟨vs, h1, h2, h3, h4, h5⟩ := h.own k g el sz xs hk
    exact ⟨vs, own_keep' h1 fun g' hg => hb.block g' (h1.lt g' hg).2, h2, h3, h4, fun i j cs v x a b c => (h5 i j cs v x a b c).grow hb⟩
  ge k tk h1 h2 := ⟨(h.ge k tk h1 h2).1, Nat.lt_of_lt_of_le (h.ge k tk h1 h2).2 hb.size⟩
  inj := h.inj
end
end Go.Proofs.Ytfnpgaiaebkkmaa
