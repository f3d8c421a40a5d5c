/- Abstract states: what the slots of a frame hold as data, and which blocks are the call's own; how they stand to the model's states. No conditions. -/
import Derived.Test.YtgjpeldgjpgbcaaReg
namespace Go.Proofs.Ytgjpeldgjpgbcaa
set_option linter.unusedSimpArgs false
set_option linter.unusedVariables false
open Go.RowKit

/-- What a slot holds: a plain value; a slice that can be read, its elements as cells; an own slice (ticket, generation); a pointer into an own box; a pointer to an element that can be read; a struct or array; several results; whatever. -/
inductive AV where
  | sc (v : Value)
  | sl (xs : List (List AV))
  | ow (k g : Nat)
  | bx (k g off : Nat)
  | ep (cs : List AV) (off : Nat)
  | ag (cs : List AV)
  | tu (vs : List AV)
  | any
/-- An object: what some blocks hold, told as a whole; F: blocks whose data it may read beside its own ones. -/
structure OP where
  rep : (Nat → Prop) → World → Nat → (Nat → Prop) → Prop
  stab : ∀ {F F' : Nat → Prop} {w w' : World} {r : Nat} {ft : Nat → Prop}, rep F w r ft → w.heap.size ≤ w'.heap.size → (∀ b, w'.heap.size ≤ b → F' b) → (∀ b o, F b → w.heap[b]? = some o → F' b ∧ w'.heap[b]? = some o) → (∀ b, ft b → w'.heap[b]? = w.heap[b]?) → rep F' w' r ft
/-- A ticket's block: none; a box; a slice's row, that grows; a slice that is nil and will grow; an object's blocks. -/
inductive TC where
  | off
  | box (ty : TypeId) (cs : List AV)
  | own (el : TypeId) (sz : Nat) (xs : List (List AV))
  | nown (el : TypeId) (sz : Nat)
  | obj (p : OP)
/-- It has a block. -/
def TC.blk : TC → Prop
  | .box _ _ => True
  | .own _ _ _ => True
  | _ => False
@[simp] theorem blk_box {ty : TypeId} {cs : List AV} : (TC.box ty cs).blk := trivial
@[simp] theorem blk_own {el : TypeId} {sz : Nat} {xs : List (List AV)} : (TC.own el sz xs).blk := trivial
structure TK where
  g : Nat
  c : TC
/-- A pointer can lead there. -/
def TC.isB : TC → Bool
  | .box _ _ => true
  | .obj _ => true
  | _ => false

/-- Data that lies in blocks of F and is not written any more. -/
inductive RepS (F : Nat → Prop) (w : World) : Value → AV → Prop
  | sc (v : Value) : RepS F w v (.sc v)
  | sl0 (A : Option Addr) (c : Nat) (hc : c ≤ maxLen) : RepS F w (.slice A 0 c) (.sl [])
  | sl1 (b off n c sz : Nat) (V : Nat → Nat → Value) (xs : List (List AV)) (hn : xs.length = n) (h0 : 0 < n) (hnc : n ≤ c) (hc : c ≤ maxLen) (hsz : 0 < sz) (hf : F b)
      (hl : ∀ (i : Nat) (cs : List AV), xs[i]? = some cs → cs.length = sz) (hv : ∀ i j, i < n → j < sz → w.cell? ⟨b, off + (i * sz + j), none⟩ = some (V i j)) (h1 : ∀ i j, (V i j).oneCell' = true)
      (hr : ∀ (i j : Nat) (cs : List AV) x, xs[i]? = some cs → cs[j]? = some x → RepS F w (V i j) x) : RepS F w (.slice (some ⟨b, off, none⟩) n c) (.sl xs)
  | ag (vs : Array Value) (cs : List AV) (hs : vs.size = cs.length) (h1 : ∀ v ∈ vs, v.oneCell' = true) (hr : ∀ (j : Nat) v x, vs[j]? = some v → cs[j]? = some x → RepS F w v x) : RepS F w (.agg vs) (.ag cs)
  | tu (vs : Array Value) (cs : List AV) (hs : vs.size = cs.length) (hr : ∀ (j : Nat) v x, vs[j]? = some v → cs[j]? = some x → RepS F w v x) : RepS F w (.tuple vs) (.tu cs)

theorem blk_of_cell {w : World} {b o : Nat} {v : Value} (h : w.cell? ⟨b, o, none⟩ = some v) : ∃ x, w.heap[b]? = some x := by
  have hlt : b < w.heap.size := block_lt_of_cell h
  exact ⟨_, Array.getElem?_eq_getElem hlt⟩
theorem cell_same {w w' : World} {b o : Nat} {v : Value} {x : Obj} (h : w.cell? ⟨b, o, none⟩ = some v) (h1 : w.heap[b]? = some x) (h2 : w'.heap[b]? = some x) : w'.cell? ⟨b, o, none⟩ = some v := by
  rw [← h]
  exact World.cell?_of_block (h2.trans h1.symm)
theorem RepS.mv {F F' : Nat → Prop} {w w' : World} {v : Value} {x : AV} (h : RepS F w v x) (m : ∀ b o, F b → w.heap[b]? = some o → F' b ∧ w'.heap[b]? = some o) : RepS F' w' v x := by
  induction h with
  | sc v => exact .sc v
  | sl0 A c hc => exact .sl0 A c hc
  | sl1 b off n c sz V xs hn h0 hnc hc hsz hf hl hv h1 hr ih =>
    obtain ⟨o, ho⟩ := blk_of_cell (hv 0 0 h0 hsz)
    obtain ⟨h2, h3⟩ := m b o hf ho
    exact .sl1 b off n c sz V xs hn h0 hnc hc hsz h2 hl (fun i j hi hj => cell_same (hv i j hi hj) ho h3) h1 ih
  | ag vs cs hs h1 hr ih => exact .ag vs cs hs h1 ih
  | tu vs cs hs hr ih => exact .tu vs cs hs ih
theorem RepS.grow {F : Nat → Prop} {w w' : World} {v : Value} {x : AV} (h : RepS F w v x) (hb : Below w.heap.size w w') : RepS F w' v x :=
  h.mv fun b _ hf ho => ⟨hf, (hb.block b (Array.getElem?_eq_some_iff.1 ho).1).trans ho⟩
theorem RepS.mono {F F' : Nat → Prop} {w : World} {v : Value} {x : AV} (h : RepS F w v x) (m : ∀ b, b < w.heap.size → F b → F' b) : RepS F' w v x :=
  h.mv fun b _ hf ho => ⟨m b (Array.getElem?_eq_some_iff.1 ho).1 hf, ho⟩

/-- Where the tickets' blocks lie, and an own slice's capacity. -/
abbrev Loc := Nat → Nat × Nat
/-- The blocks of a ticket; an object's are written down as a number's bits. -/
def foot (ρ : Loc) (k : Nat) : TC → Nat → Prop
  | .box _ _, b => (ρ k).1 = b
  | .own _ _ _, b => (ρ k).1 = b
  | .obj _, b => (ρ k).2.testBit b = true
  | _, _ => False
theorem foot_self {ρ : Loc} {k : Nat} {c : TC} (h : c.blk) : foot ρ k c (ρ k).1 := by cases c <;> first | exact h.elim | rfl
theorem foot_eq {ρ : Loc} {k b : Nat} {c : TC} (h : c.blk) (hf : foot ρ k c b) : (ρ k).1 = b := by cases c <;> first | exact h.elim | exact hf
theorem foot_loc {ρ ρ' : Loc} {k b : Nat} {c : TC} (h : ρ' k = ρ k) : foot ρ' k c b ↔ foot ρ k c b := by cases c <;> simp only [foot, h]
def Free (F : Nat → Prop) (ρ : Loc) (st : List TK) (b : Nat) : Prop := F b ∧ ∀ k tk, st[k]? = some tk → ¬ foot ρ k tk.c b
theorem Free.ne {F : Nat → Prop} {ρ : Loc} {st : List TK} {b : Nat} (h : Free F ρ st b) (k : Nat) (tk : TK) (hk : st[k]? = some tk) (hb : tk.c.blk) : (ρ k).1 ≠ b := fun e => h.2 k tk hk (e ▸ foot_self hb)
def Stale (st : List TK) (k g : Nat) : Prop := ∃ tk, st[k]? = some tk ∧ (g < tk.g ∨ (g = tk.g ∧ tk.c = .off))

inductive Rep (F : Nat → Prop) (ρ : Loc) (st : List TK) (w : World) : Value → AV → Prop
  | any (v : Value) : Rep F ρ st w v .any
  | s {v : Value} {x : AV} (h : RepS (Free F ρ st) w v x) : Rep F ρ st w v x
  | ow (k g : Nat) (el : TypeId) (sz : Nat) (xs : List (List AV)) (h : st[k]? = some ⟨g, .own el sz xs⟩) : Rep F ρ st w (.slice (some ⟨(ρ k).1, 0, none⟩) xs.length (ρ k).2) (.ow k g)
  | ow0 (k g : Nat) (el : TypeId) (sz : Nat) (h : st[k]? = some ⟨g, .nown el sz⟩) : Rep F ρ st w (.slice none 0 0) (.ow k g)
  | owd (k g : Nat) (v : Value) (h : Stale st k g) : Rep F ρ st w v (.ow k g)
  | bx (k g off : Nat) (ty : TypeId) (cs : List AV) (h : st[k]? = some ⟨g, .box ty cs⟩) : Rep F ρ st w (.pointer (some ⟨(ρ k).1, off, none⟩)) (.bx k g off)
  | ob (k g off : Nat) (p : OP) (h : st[k]? = some ⟨g, .obj p⟩) : Rep F ρ st w (.pointer (some ⟨(ρ k).1, off, none⟩)) (.bx k g off)
  | bxd (k g off : Nat) (v : Value) (h : Stale st k g) : Rep F ρ st w v (.bx k g off)
  | ep (b base off : Nat) (cs : List AV) (V : Nat → Value) (h0 : 0 < cs.length) (hf : Free F ρ st b) (hv : ∀ j, j < cs.length → w.cell? ⟨b, base + j, none⟩ = some (V j)) (h1 : ∀ j, (V j).oneCell' = true)
      (hr : ∀ (j : Nat) x, cs[j]? = some x → RepS (Free F ρ st) w (V j) x) : Rep F ρ st w (.pointer (some ⟨b, base + off, none⟩)) (.ep cs off)
  | ag (vs : Array Value) (cs : List AV) (hs : vs.size = cs.length) (h1 : ∀ v ∈ vs, v.oneCell' = true) (hr : ∀ (j : Nat) v x, vs[j]? = some v → cs[j]? = some x → Rep F ρ st w v x) : Rep F ρ st w (.agg vs) (.ag cs)
  | tu (vs : Array Value) (cs : List AV) (hs : vs.size = cs.length) (hr : ∀ (j : Nat) v x, vs[j]? = some v → cs[j]? = some x → Rep F ρ st w v x) : Rep F ρ st w (.tuple vs) (.tu cs)
theorem Rep.sc {F : Nat → Prop} {ρ : Loc} {st : List TK} {w : World} (v : Value) : Rep F ρ st w v (.sc v) := .s (.sc v)

/-- A step of the run, as values see it. -/
structure Mv (F : Nat → Prop) (ρ : Loc) (st : List TK) (w : World) (ρ' : Loc) (st' : List TK) (w' : World) : Prop where
  free : ∀ b o, Free F ρ st b → w.heap[b]? = some o → Free F ρ' st' b ∧ w'.heap[b]? = some o
  tk : ∀ k tk, st[k]? = some tk → ∃ tk', st'[k]? = some tk' ∧ ((tk' = tk ∧ ρ' k = ρ k) ∨ tk.g < tk'.g ∨ (tk'.g = tk.g ∧ tk'.c = .off) ∨ (tk'.g = tk.g ∧ (ρ' k).1 = (ρ k).1 ∧ tk.c.isB = true ∧ tk'.c.isB = true))

/-- A ticket and where it lies, as they were and as they are. -/
def TkR (tk : TK) (l : Nat × Nat) (tk' : TK) (l' : Nat × Nat) : Prop := (tk' = tk ∧ l' = l) ∨ tk.g < tk'.g ∨ (tk'.g = tk.g ∧ tk'.c = .off) ∨ (tk'.g = tk.g ∧ l'.1 = l.1 ∧ tk.c.isB = true ∧ tk'.c.isB = true)
theorem TkR.trans {a b c : TK} {l m n : Nat × Nat} (h : TkR a l b m) (k : TkR b m c n) : TkR a l c n := by
  rcases h with ⟨rfl, rfl⟩ | h | ⟨h1, h2⟩ | ⟨h1, h2, h3, h4⟩
  · exact k
  · rcases k with ⟨rfl, rfl⟩ | k | ⟨k1, k2⟩ | ⟨k1, _⟩
    · exact .inr (.inl h)
    · exact .inr (.inl (by omega))
    · exact .inr (.inl (by omega))
    · exact .inr (.inl (by omega))
  · rcases k with ⟨rfl, rfl⟩ | k | ⟨k1, k2⟩ | ⟨k1, k2, k3, k4⟩
    · exact .inr (.inr (.inl ⟨h1, h2⟩))
    · exact .inr (.inl (by omega))
    · exact .inr (.inr (.inl ⟨by omega, k2⟩))
    · rw [h2] at k3; cases k3
  · rcases k with ⟨rfl, rfl⟩ | k | ⟨k1, k2⟩ | ⟨k1, k2, k3, k4⟩
    · exact .inr (.inr (.inr ⟨h1, h2, h3, h4⟩))
    · exact .inr (.inl (by omega))
    · exact .inr (.inr (.inl ⟨by omega, k2⟩))
    · exact .inr (.inr (.inr ⟨by omega, k2.trans h2, h3, k4⟩))
/-- Where a call began: the world, and the tickets that it was handed. -/
structure Bs where
  w : World
  ρ : Loc
  os : List TK
/-- Blocks that it was handed. -/
def Bs.M (B : Bs) (b : Nat) : Prop := ∃ k tk, B.os[k]? = some tk ∧ foot B.ρ k tk.c b
/-- All but those is as it was. -/
structure Bel (B : Bs) (w : World) : Prop where
  os : w.os = B.w.os
  tape : w.tape = B.w.tape
  output : w.output = B.w.output
  size : B.w.heap.size ≤ w.heap.size
  block : ∀ k, k < B.w.heap.size → ¬ B.M k → w.heap[k]? = B.w.heap[k]?
theorem Bel.refl (B : Bs) : Bel B B.w := ⟨rfl, rfl, rfl, Nat.le_refl _, fun _ _ _ => rfl⟩
theorem Bel.grown {B : Bs} {w w' : World} {row : Option Nat} (h : Bel B w) (g : w.grownBy w' row) (hr : ∀ b, row = some b → B.w.heap.size ≤ b ∨ B.M b) : Bel B w' :=
  ⟨g.os.trans h.os, g.tape.trans h.tape, g.output.trans h.output, Nat.le_trans h.size g.size, fun k hk hM => (g.block k (Nat.lt_of_lt_of_le hk h.size) fun e => by
    rcases hr k e.symm with h1 | h1
    · omega
    · exact hM h1).trans (h.block k hk hM)⟩
theorem Bel.grow {B : Bs} {w w' : World} (h : Bel B w) (hb : Below w.heap.size w w') : Bel B w' :=
  ⟨hb.os.trans h.os, hb.tape.trans h.tape, hb.output.trans h.output, Nat.le_trans h.size hb.size, fun k hk hM => (hb.block k (Nat.lt_of_lt_of_le hk h.size)).trans (h.block k hk hM)⟩
theorem Bel.below {B : Bs} {w : World} (h : Bel B w) (h0 : B.os = []) : Below B.w.heap.size B.w w :=
  ⟨h.os, h.tape, h.output, h.size, fun k hk => h.block k hk fun ⟨j, tk, hj, _⟩ => by rw [h0] at hj; simp at hj⟩
section
variable {F : Nat → Prop} {ρ ρ' : Loc} {st st' : List TK} {w w' : World} {w0 : Bs} {v : Value} {x : AV} {a : Act} {t : List AV}
theorem Stale.mv {k g : Nat} (h : Stale st k g) (m : Mv F ρ st w ρ' st' w') : Stale st' k g := by
  obtain ⟨tk, h1, h2⟩ := h
  obtain ⟨tk', h3, h4⟩ := m.tk k tk h1
  refine ⟨tk', h3, ?_⟩
  rcases h4 with ⟨rfl, _⟩ | h4 | ⟨h4, h5⟩ | ⟨h4, _, h5, h6⟩
  · exact h2
  · rcases h2 with h2 | h2
    · exact .inl (by omega)
    · exact .inl (by omega)
  · rcases h2 with h2 | h2
    · exact .inl (by omega)
    · exact .inr ⟨by omega, h5⟩
  · rcases h2 with h2 | h2
    · exact .inl (by omega)
    · rw [h2.2] at h5; cases h5
theorem Rep.ptr {k g off : Nat} {tk : TK} (h : st[k]? = some tk) (hg : tk.g = g) (hb : tk.c.isB = true) : Rep F ρ st w (.pointer (some ⟨(ρ k).1, off, none⟩)) (.bx k g off) := by
  obtain ⟨g', c⟩ := tk
  simp only at hg
  subst hg
  cases c with
  | box ty cs => exact .bx k _ off ty cs h
  | obj p => exact .ob k _ off p h
  | _ => cases hb
theorem Rep.mv (h : Rep F ρ st w v x) (m : Mv F ρ st w ρ' st' w') : Rep F ρ' st' w' v x := by
  induction h with
  | any v => exact .any v
  | s h => exact .s (h.mv m.free)
  | ow k g el sz xs h =>
    obtain ⟨tk', h3, h4⟩ := m.tk k _ h
    rcases h4 with ⟨rfl, h5⟩ | h4 | ⟨h4, h5⟩ | ⟨h4, _, h5, h6⟩
    · rw [← h5]; exact .ow k g el sz xs h3
    · exact .owd k g _ ⟨tk', h3, .inl h4⟩
    · exact .owd k g _ ⟨tk', h3, .inr ⟨h4.symm, h5⟩⟩
    · cases h5
  | ow0 k g el sz h =>
    obtain ⟨tk', h3, h4⟩ := m.tk k _ h
    rcases h4 with ⟨rfl, h5⟩ | h4 | ⟨h4, h5⟩ | ⟨h4, _, h5, h6⟩
    · exact .ow0 k g el sz h3
    · exact .owd k g _ ⟨tk', h3, .inl h4⟩
    · exact .owd k g _ ⟨tk', h3, .inr ⟨h4.symm, h5⟩⟩
    · cases h5
  | owd k g v h => exact .owd k g v (h.mv m)
  | bx k g off ty cs h =>
    obtain ⟨tk', h3, h4⟩ := m.tk k _ h
    rcases h4 with ⟨rfl, h5⟩ | h4 | ⟨h4, h5⟩ | ⟨h4, h7, h5, h6⟩
    · rw [← h5]; exact .bx k g off ty cs h3
    · exact .bxd k g off _ ⟨tk', h3, .inl h4⟩
    · exact .bxd k g off _ ⟨tk', h3, .inr ⟨h4.symm, h5⟩⟩
    · rw [← h7]
      exact .ptr h3 h4 h6
  | ob k g off p h =>
    obtain ⟨tk', h3, h4⟩ := m.tk k _ h
    rcases h4 with ⟨rfl, h5⟩ | h4 | ⟨h4, h5⟩ | ⟨h4, h7, h5, h6⟩
    · rw [← h5]; exact .ob k g off p h3
    · exact .bxd k g off _ ⟨tk', h3, .inl h4⟩
    · exact .bxd k g off _ ⟨tk', h3, .inr ⟨h4.symm, h5⟩⟩
    · rw [← h7]
      exact .ptr h3 h4 h6
  | bxd k g off v h => exact .bxd k g off v (h.mv m)
  | ep b base off cs V h0 hf hv h1 hr =>
    obtain ⟨o, ho⟩ := blk_of_cell (hv 0 h0)
    obtain ⟨h2, h3⟩ := m.free b o hf ho
    exact .ep b base off cs V h0 h2 (fun j hj => cell_same (hv j hj) ho h3) h1 fun j x hx => (hr j x hx).mv m.free
  | ag vs cs hs h1 hr ih => exact .ag vs cs hs h1 ih
  | tu vs cs hs hr ih => exact .tu vs cs hs ih

/-- The store stands for the blocks. F: blocks whose data may be read. -/
structure St (F : Nat → Prop) (ρ : Loc) (st : List TK) (w0 : Bs) (w : World) : Prop where
  below : Bel w0 w
  fresh : ∀ b, w.heap.size ≤ b → F b
  box : ∀ k g ty cs, st[k]? = some ⟨g, .box ty cs⟩ → ∃ vs : Array Value, w.heap[(ρ k).1]? = some (.cells vs ty (0, 0)) ∧ vs.size = cs.length ∧ (∀ v ∈ vs, v.oneCell' = true) ∧ ∀ (j : Nat) v x, vs[j]? = some v → cs[j]? = some x → Rep F ρ st w v x
  own : ∀ k g el sz xs, st[k]? = some ⟨g, .own el sz xs⟩ → ∃ vs : List Value, w.ownsRow 0 el sz (.slice (some ⟨(ρ k).1, 0, none⟩) xs.length (ρ k).2) xs.length vs ∧ 0 < sz ∧ (∀ v ∈ vs, v.oneCell' = true) ∧ (∀ (i : Nat) (cs : List AV), xs[i]? = some cs → cs.length = sz) ∧
    ∀ (i j : Nat) (cs : List AV) v x, xs[i]? = some cs → cs[j]? = some x → vs[i * sz + j]? = some v → RepS (Free F ρ st) w v x
  obj : ∀ (k g : Nat) (p : OP), st[k]? = some ⟨g, .obj p⟩ → p.rep (Free F ρ st) w (ρ k).1 (foot ρ k (.obj p))
  ge : ∀ (k : Nat) (tk : TK) (b : Nat), st[k]? = some tk → foot ρ k tk.c b → ((w0.w.heap.size ≤ b ∨ w0.M b) ∧ F b) ∧ b < w.heap.size
  inj : ∀ (k : Nat) (tk : TK) (k' : Nat) (tk' : TK) (b : Nat), st[k]? = some tk → foot ρ k tk.c b → st[k']? = some tk' → foot ρ k' tk'.c b → k = k'
  hist : ∀ (k : Nat) (tk0 : TK), w0.os[k]? = some tk0 → ∃ tk, st[k]? = some tk ∧ TkR tk0 (w0.ρ k) tk (ρ k)
theorem St.geB (hs : St F ρ st w0 w) (k : Nat) (tk : TK) (hk : st[k]? = some tk) (hb : tk.c.blk) : ((w0.w.heap.size ≤ (ρ k).1 ∨ w0.M (ρ k).1) ∧ F (ρ k).1) ∧ (ρ k).1 < w.heap.size := hs.ge k tk _ hk (foot_self hb)
theorem St.injB (hs : St F ρ st w0 w) (k : Nat) (tk : TK) (k' : Nat) (tk' : TK) (hk : st[k]? = some tk) (hb : tk.c.blk) (hk' : st[k']? = some tk') (hb' : tk'.c.blk) (e : (ρ k).1 = (ρ k').1) : k = k' := hs.inj k tk k' tk' _ hk (foot_self hb) hk' (e ▸ foot_self hb')
theorem hist_mv {F : Nat → Prop} {ρ ρ' : Loc} {st st' : List TK} {w w' : World} {w0 : Bs} (h : ∀ (k : Nat) (tk0 : TK), w0.os[k]? = some tk0 → ∃ tk, st[k]? = some tk ∧ TkR tk0 (w0.ρ k) tk (ρ k)) (m : Mv F ρ st w ρ' st' w') : ∀ (k : Nat) (tk0 : TK), w0.os[k]? = some tk0 → ∃ tk, st'[k]? = some tk ∧ TkR tk0 (w0.ρ k) tk (ρ' k) := fun k tk0 h0 => by
  obtain ⟨tk, h1, h2⟩ := h k tk0 h0
  obtain ⟨tk', h3, h4⟩ := m.tk k tk h1
  exact ⟨tk', h3, h2.trans h4⟩

/-- A frame stands for slots. -/
structure Fm (F : Nat → Prop) (ρ : Loc) (st : List TK) (w : World) (a : Act) (t : List AV) : Prop where
  defers : a.defers = []
  size : a.tmps.size = t.length
  rep : ∀ (i : Nat) v x, a.tmps[i]? = some v → t[i]? = some x → Rep F ρ st w v x

theorem Fm.mv (h : Fm F ρ st w a t) (m : Mv F ρ st w ρ' st' w') : Fm F ρ' st' w' a t :=
  ⟨h.defers, h.size, fun i v x hv hx => (h.rep i v x hv hx).mv m⟩
def putA (t : List AV) (d : Option Tmp) (x : AV) : List AV := match d with | some d => t.set d x | none => t
theorem Fm.put (h : Fm F ρ st w a t) (d : Option Tmp) (hr : Rep F ρ st w v x) : Fm F ρ st w (a.put d v) (putA t d x) := by
  cases d with
  | none => exact h
  | some d =>
    refine ⟨h.defers, by simp [Act.put, putA, h.size], fun i u y hu hy => ?_⟩
    simp only [Act.put, putA, Array.getElem?_setIfInBounds, List.getElem?_set] at hu hy
    by_cases e : d = i
    · rw [if_pos e] at hu hy
      split at hu
      · rw [if_pos (by rw [← h.size]; assumption)] at hy
        injection hu with hu
        injection hy with hy
        subst hu hy
        exact hr
      · cases hu
    · rw [if_neg e] at hu hy
      exact h.rep i u y hu hy

/-- What an operand holds. -/
def evA (t : List AV) : Operand → AV
  | .tmp i => t.getD i .any
  | .const v => .sc v
  | .global g => .sc (.pointer (some ⟨g, 0, none⟩))
  | .func f => .sc (.func (.func f) #[] #[])
theorem Fm.ev (h : Fm F ρ st w a t) (x : Operand) : Rep F ρ st w (a.eval x) (evA t x) := by
  cases x with
  | tmp i =>
    simp only [Act.eval, evA]
    rcases Nat.lt_or_ge i t.length with hi | hi
    · have h1 : t[i]? = some t[i] := List.getElem?_eq_getElem hi
      have h2 : a.tmps[i]? = some (a.tmps[i]'(by rw [h.size]; exact hi)) := Array.getElem?_eq_getElem (by rw [h.size]; exact hi)
      rw [Array.getD_eq_getD_getElem?, List.getD_eq_getElem?_getD, h1, h2]
      exact h.rep i _ _ h2 h1
    · rw [List.getD_eq_getElem?_getD, List.getElem?_eq_none hi]
      exact .any _
  | const v => exact .sc v
  | global g => exact .sc _
  | func f => exact .sc _
theorem Rep.of_sc {u : Value} (h : Rep F ρ st w v (.sc u)) : v = u := by
  cases h with
  | s h => cases h; rfl

/-- Growth alone. -/
theorem Mv.below (hb : Below w.heap.size w w') : Mv F ρ st w ρ st w' :=
  ⟨fun b o hf h => ⟨hf, (hb.block b (Array.getElem?_eq_some_iff.1 h).1).trans h⟩, fun k tk h => ⟨tk, h, .inl ⟨rfl, rfl⟩⟩⟩
theorem Mv.refl (F : Nat → Prop) (ρ : Loc) (st : List TK) (w : World) : Mv F ρ st w ρ st w := Mv.below (Below.refl _ _)
theorem own_keep' {base : Nat} {el : TypeId} {vs : List Value} {size : Nat} {m : Nat} (h : w.ownsRow base el size v m vs) (hb : ∀ g, v.ownBlock = some g → w'.heap[g]? = w.heap[g]?) : w'.ownsRow base el size v m vs :=
  ⟨h.1, by
    rcases h.2 with ⟨h1, h2⟩ | ⟨g, cap, cur, h1, h2, h3, h4⟩
    · exact .inl ⟨h1, h2⟩
    · subst h1
      exact .inr ⟨g, cap, cur, rfl, h2, (hb g rfl).trans h3, h4⟩⟩
theorem St.grow (h : St F ρ st w0 w) (hb : Below w.heap.size w w') : St F ρ st w0 w' where
  below := h.below.grow hb
  fresh := fun b hb' => h.fresh b (Nat.le_trans hb.size hb')
  box k g ty cs hk := by
    obtain ⟨vs, h1, h2, h3, h4⟩ := h.box k g ty cs hk
    exact ⟨vs, (hb.block _ (Array.getElem?_eq_some_iff.1 h1).1).trans h1, h2, h3, fun j v x hv hx => (h4 j v x hv hx).mv (Mv.below hb)⟩
  own k g el sz xs hk := by
    obtain ⟨vs, h1, h2, h3, h4, h5⟩ := h.own k g el sz xs hk
    exact ⟨vs, own_keep' h1 fun g' hg => hb.block g' (h1.lt g' hg).2, h2, h3, h4, fun i j cs v x a b c => (h5 i j cs v x a b c).grow hb⟩
  obj k g p hk := p.stab (h.obj k g p hk) hb.size (fun b hb' => ⟨h.fresh b (Nat.le_trans hb.size hb'), fun j tk hj hf => by have := (h.ge j tk b hj hf).2; have := hb.size; omega⟩) (fun b o hf ho => ⟨hf, (hb.block b (Array.getElem?_eq_some_iff.1 ho).1).trans ho⟩) (fun b hf => hb.block b (h.ge k _ b hk hf).2)
  ge k tk b h1 h2 := ⟨(h.ge k tk b h1 h2).1, Nat.lt_of_lt_of_le (h.ge k tk b h1 h2).2 hb.size⟩
  inj := h.inj
  hist := hist_mv h.hist (Mv.below (F := F) hb)
theorem get_set {st : List TK} {k j : Nat} {tk q : TK} (hk : k < st.length) : (st.set k tk)[j]? = some q → (j = k ∧ q = tk) ∨ (j ≠ k ∧ st[j]? = some q) := by
  intro h
  rw [List.getElem?_set] at h
  split at h
  · rename_i e
    try rw [if_pos (by omega)] at h
    injection h with h
    exact .inl ⟨e.symm, h.symm⟩
  · rename_i e
    exact .inr ⟨fun e' => e e'.symm, h⟩
/-- One ticket is another one now; all others are as they were. -/
theorem St.upd (hs : St F ρ st w0 w) {k : Nat} {tk tk' : TK} (hk : st[k]? = some tk) (hρ : ∀ j, j ≠ k → ρ' j = ρ j) (hbel : Bel w0 w') (hsz : w.heap.size ≤ w'.heap.size) (hmv : Mv F ρ st w ρ' (st.set k tk') w') (hkeep : ∀ j q b, j ≠ k → st[j]? = some q → foot ρ j q.c b → w'.heap[b]? = w.heap[b]?)
    (hge : ∀ b, foot ρ' k tk'.c b → ((w0.w.heap.size ≤ b ∨ w0.M b) ∧ F b) ∧ b < w'.heap.size) (hdis : ∀ j q b, j ≠ k → st[j]? = some q → foot ρ j q.c b → foot ρ' k tk'.c b → False)
    (hbox : ∀ ty cs, tk'.c = .box ty cs → ∃ vs : Array Value, w'.heap[(ρ' k).1]? = some (.cells vs ty (0, 0)) ∧ vs.size = cs.length ∧ (∀ v ∈ vs, v.oneCell' = true) ∧ ∀ (j : Nat) v x, vs[j]? = some v → cs[j]? = some x → Rep F ρ' (st.set k tk') w' v x)
    (hown : ∀ el sz xs, tk'.c = .own el sz xs → ∃ vs : List Value, w'.ownsRow 0 el sz (.slice (some ⟨(ρ' k).1, 0, none⟩) xs.length (ρ' k).2) xs.length vs ∧ 0 < sz ∧ (∀ v ∈ vs, v.oneCell' = true) ∧ (∀ (i : Nat) (cs : List AV), xs[i]? = some cs → cs.length = sz) ∧
      ∀ (i j : Nat) (cs : List AV) v x, xs[i]? = some cs → cs[j]? = some x → vs[i * sz + j]? = some v → RepS (Free F ρ' (st.set k tk')) w' v x)
    (hobj : ∀ p, tk'.c = .obj p → p.rep (Free F ρ' (st.set k tk')) w' (ρ' k).1 (foot ρ' k (.obj p))) : St F ρ' (st.set k tk') w0 w' := by
  have hklt := (List.getElem?_eq_some_iff.1 hk).1
  have hft : ∀ j c b, j ≠ k → foot ρ' j c b → foot ρ j c b := fun j c b hj hf => (foot_loc (hρ j hj)).1 hf
  refine ⟨hbel, fun b hb => hs.fresh b (Nat.le_trans hsz hb), ?_, ?_, ?_, ?_, ?_, hist_mv hs.hist hmv⟩
  · intro j gg ty cs hj
    rcases get_set hklt hj with ⟨rfl, he⟩ | ⟨hne, hj'⟩
    · exact hbox ty cs (by rw [← he])
    · obtain ⟨us, h1, h2, h3, h4⟩ := hs.box j gg ty cs hj'
      rw [hρ j hne]
      exact ⟨us, (hkeep j _ _ hne hj' rfl).trans h1, h2, h3, fun j v x hv hx => (h4 j v x hv hx).mv hmv⟩
  · intro j gg el sz xs hj
    rcases get_set hklt hj with ⟨rfl, he⟩ | ⟨hne, hj'⟩
    · exact hown el sz xs (by rw [← he])
    · obtain ⟨us, h1, h2, h3, h4, h5⟩ := hs.own j gg el sz xs hj'
      rw [hρ j hne]
      exact ⟨us, own_keep' h1 fun g' hg => by injection hg with hg; subst hg; exact hkeep j _ _ hne hj' rfl, h2, h3, h4, fun i j cs v x a b c => (h5 i j cs v x a b c).mv hmv.free⟩
  · intro j gg p hj
    rcases get_set hklt hj with ⟨rfl, he⟩ | ⟨hne, hj'⟩
    · exact hobj p (by rw [← he])
    · have h1 := hs.obj j gg p hj'
      have e : foot ρ' j (.obj p) = foot ρ j (.obj p) := by funext b; exact propext (foot_loc (hρ j hne))
      rw [hρ j hne, e]
      refine p.stab h1 hsz (fun b hb => ⟨hs.fresh b (Nat.le_trans hsz hb), fun i q hq hf => ?_⟩) hmv.free (fun b hf => hkeep j _ b hne hj' hf)
      rcases get_set hklt hq with ⟨rfl, rfl⟩ | ⟨hi, hq'⟩
      · have := (hge b hf).2; omega
      · have := (hs.ge i q b hq' (hft i _ b hi hf)).2; omega
  · intro j q b hq hf
    rcases get_set hklt hq with ⟨rfl, rfl⟩ | ⟨hj, hq'⟩
    · exact hge b hf
    · have := hs.ge j q b hq' (hft j _ b hj hf)
      exact ⟨this.1, Nat.lt_of_lt_of_le this.2 hsz⟩
  · intro i q i' q' b hi hf hi' hf'
    rcases get_set hklt hi with ⟨rfl, rfl⟩ | ⟨hj, hq⟩
    · rcases get_set hklt hi' with ⟨rfl, rfl⟩ | ⟨hj', hq'⟩
      · rfl
      · exact (hdis i' q' b hj' hq' (hft i' _ b hj' hf') hf).elim
    · rcases get_set hklt hi' with ⟨rfl, rfl⟩ | ⟨hj', hq'⟩
      · exact (hdis i q b hj hq (hft i _ b hj hf) hf').elim
      · exact hs.inj i q i' q' b hq (hft i _ b hj hf) hq' (hft i' _ b hj' hf')
/-- How values move, if one ticket is another one now. -/
theorem Mv.upd {k : Nat} {tk tk' : TK} (hk : st[k]? = some tk) (hρ : ∀ j, j ≠ k → ρ' j = ρ j) (hfree : ∀ b o, Free F ρ st b → w.heap[b]? = some o → ¬ foot ρ' k tk'.c b ∧ w'.heap[b]? = some o) (htk : TkR tk (ρ k) tk' (ρ' k)) : Mv F ρ st w ρ' (st.set k tk') w' := by
  have hklt := (List.getElem?_eq_some_iff.1 hk).1
  refine ⟨fun b o hf ho => ⟨⟨hf.1, fun j q hq hf' => ?_⟩, (hfree b o hf ho).2⟩, fun j q hq => ?_⟩
  · rcases get_set hklt hq with ⟨rfl, rfl⟩ | ⟨hj, hq'⟩
    · exact (hfree b o hf ho).1 hf'
    · exact hf.2 j q hq' ((foot_loc (hρ j hj)).1 hf')
  · by_cases hj : j = k
    · subst hj
      rw [hk] at hq
      injection hq with hq
      subst hq
      exact ⟨tk', by rw [List.getElem?_set_self hklt], htk⟩
    · exact ⟨q, by rw [List.getElem?_set_ne (fun e => hj e.symm)]; exact hq, .inl ⟨rfl, hρ j hj⟩⟩
end
end Go.Proofs.Ytgjpeldgjpgbcaa
