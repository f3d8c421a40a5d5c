/- A part of a proof. -/
import Derived.IntWalk
import Derived.KernelRfl
import Derived.Laws.BytesString
import Derived.Laws.MakeOwn
import Derived.Laws.StructEq
import Derived.Lib.ConvBytes
import Derived.Maps.AppendAt
import Derived.ScopeJumps
import Derived.Test.YtlapcfnmmpbeeaaPT03
set_option linter.unusedSimpArgs false
set_option linter.unusedVariables false
namespace Go.Proofs.Ytlapcfnmmpbeeaa
open Go.RowKit
section
variable {P : Program} {ops : Array Oper} {l : List Oper} {Q : Exit → Act → World → Prop} {row : Option Nat}
theorem grown_trans' {a b c : World} (h : a.grownBy b row) (k : b.grownBy c row) : a.grownBy c row :=
  ⟨k.os.trans h.os, k.tape.trans h.tape, k.output.trans h.output, Nat.le_trans h.size k.size, fun i hi hn => (k.block i (Nat.lt_of_lt_of_le hi h.size) hn).trans (h.block i hi hn)⟩
theorem grown_of_below {a b : World} (h : Below a.heap.size a b) : a.grownBy b row := ⟨h.os, h.tape, h.output, h.size, fun i hi _ => h.block i hi⟩
theorem below_of_grown {a b : World} (h : a.grownBy b none) : Below a.heap.size a b := ⟨h.os, h.tape, h.output, h.size, fun i hi => h.block i hi (by simp)⟩
def RB (P : Program) (ops : Array Oper) (Q : Exit → Act → World → Prop) (row : Option Nat) (fuel : Nat) (listed : Array Bool) (a : Act) (w : World) : Prop :=
  wpAnyH P .any ops (NoPanic Q) (fun w' => w.grownBy w' row) fuel listed a w
theorem rb_weaker {S S' : World → Prop} (h : ∀ w, S' w → S w) : ∀ (fuel : Nat) (listed : Array Bool) (a : Act) (w : World), wpAnyH P .any ops Q S' fuel listed a w → wpAnyH P .any ops Q S fuel listed a w
  | 0, _, _, _, hh => hh
  | fuel + 1, _, _, _, hh => ⟨hh.1, fun i hi => wpOp_mono (fun a' w' h' => ⟨h w' h'.1, rb_weaker h fuel _ a' w' h'.2⟩) (hh.2 i hi)⟩
theorem rb_startg (row : Option Nat) {id : Nat} {a : Act} {w : World} (hm : P.follows .mixedOrders = true) (h : RB P l.toArray Q row l.length (Array.replicate l.length false) a w.drew) : (Code.region id l.toArray true).wp P Q a w :=
  wp_region_noPanic (wp_region_held (S := fun w' => w.drew.grownBy w' row) hm (by
    have e : l.toArray.size = l.length := by simp
    rw [e]
    exact h))
theorem rb_start {id : Nat} {a : Act} {w : World} (hm : P.follows .mixedOrders = true) (h : RB P l.toArray Q none l.length (Array.replicate l.length false) a w.drew) : (Code.region id l.toArray true).wp P Q a w := rb_startg none hm h
theorem rb_takeg (i : Nat) {oi : Oper} {v : Value} {fuel : Nat} {listed : Array Bool} {a : Act} {w : World} (hi : l[i]? = some oi)
    (hs : Region.noSelect l.toArray = true) (hf : Region.free .any l.toArray listed i = true) (hr : (Region.ready .any l.toArray listed).contains i = true)
    (hw : Region.wanted oi (yielded l.toArray a.tmps) = true) (hy : ∀ w', w.grownBy w' row → (execOp a.eval oi).run P w' = .ok (.value v) w')
    (h : RB P l.toArray Q row fuel (listed.setIfInBounds i true) (a.put oi.dst v) w) : RB P l.toArray Q row (fuel + 1) listed a w :=
  wpAnyH_take (by simpa using hi) hs hf hr (fun _ _ _ h => h) (.inl ⟨hw, hy⟩) (World.grownBy.refl _ _) h
theorem rb_take (i : Nat) {oi : Oper} {v : Value} {fuel : Nat} {listed : Array Bool} {a : Act} {w : World} (hi : l[i]? = some oi)
    (hs : Region.noSelect l.toArray = true) (hf : Region.free .any l.toArray listed i = true) (hr : (Region.ready .any l.toArray listed).contains i = true)
    (hw : Region.wanted oi (yielded l.toArray a.tmps) = true) (hy : ∀ w', Below w.heap.size w w' → (execOp a.eval oi).run P w' = .ok (.value v) w')
    (h : RB P l.toArray Q none fuel (listed.setIfInBounds i true) (a.put oi.dst v) w) : RB P l.toArray Q none (fuel + 1) listed a w :=
  rb_takeg i hi hs hf hr hw (fun w' hb => hy w' (below_of_grown hb)) h
theorem rb_skip (i : Nat) {oi : Oper} {fuel : Nat} {listed : Array Bool} {a : Act} {w : World} (hi : l[i]? = some oi)
    (hs : Region.noSelect l.toArray = true) (hf : Region.free .any l.toArray listed i = true) (hr : (Region.ready .any l.toArray listed).contains i = true)
    (hw : Region.wanted oi (yielded l.toArray a.tmps) = false)
    (h : RB P l.toArray Q row fuel (listed.setIfInBounds i true) (a.put oi.dst undef) w) : RB P l.toArray Q row (fuel + 1) listed a w :=
  wpAnyH_take (by simpa using hi) hs hf hr (fun _ _ _ h => h) (.inr ⟨hw, rfl⟩) (World.grownBy.refl _ _) h
theorem rb_moveg (i : Nat) {oi : Oper} {fuel : Nat} {listed : Array Bool} {a : Act} {w : World} (hi : l[i]? = some oi)
    (hr : Region.ready .any l.toArray listed = [i]) (hw : Region.wanted oi (yielded l.toArray a.tmps) = true)
    (h : ∀ K : Act → World → Prop, (∀ a' w', w.grownBy w' row → RB P l.toArray Q row fuel (listed.setIfInBounds i true) a' w' → K a' w') → oi.wp P a w K (NoPanic Q)) : RB P l.toArray Q row (fuel + 1) listed a w := by
  refine wpAnyH_all hr (by simp) fun j hj => ?_; obtain rfl : j = i := by simpa using hj
  unfold wpOp
  have hi' : l.toArray[j]? = some oi := by simpa using hi
  simp only [hi', hw, if_true]
  exact .inl (h _ fun a' w' hb hk => ⟨hb, rb_weaker (fun _ h' => grown_trans' hb h') _ _ _ _ hk⟩)
theorem rb_move (i : Nat) {oi : Oper} {fuel : Nat} {listed : Array Bool} {a : Act} {w : World} (hi : l[i]? = some oi)
    (hr : Region.ready .any l.toArray listed = [i]) (hw : Region.wanted oi (yielded l.toArray a.tmps) = true)
    (h : ∀ K : Act → World → Prop, (∀ a' w', Below w.heap.size w w' → RB P l.toArray Q row fuel (listed.setIfInBounds i true) a' w' → K a' w') → oi.wp P a w K (NoPanic Q)) : RB P l.toArray Q row (fuel + 1) listed a w :=
  rb_moveg i hi hr hw fun K hK => h K fun a' w' hb hk => hK a' w' (grown_of_below hb) hk
theorem rb_done {fuel : Nat} {listed : Array Bool} {a : Act} {w : World} (hr : Region.ready .any l.toArray listed = []) (h : Q .normal a w) : RB P l.toArray Q row fuel listed a w :=
  wpAnyH_done (Q := NoPanic Q) hr (NoPanic.normal h) _
theorem rb_take_row (i : Nat) {oi : Oper} {fuel : Nat} {listed : Array Bool} {a : Act} {w : World} (hi : l[i]? = some oi)
    (hs : Region.noSelect l.toArray = true) (hf : Region.free .any l.toArray listed i = true) (hr : (Region.ready .any l.toArray listed).contains i = true)
    (hw : Region.wanted oi (yielded l.toArray a.tmps) = true) (ty : TypeId) (x : Operand) (ho : oi.op = .load ty x) (g : Nat) (hx : a.eval x = .pointer (some ⟨g, 0, none⟩)) (t : TypeId) (cs : Array Value) (fr : Nat × Nat) (d : TypeDesc)
    (hg : w.heap[g]? = some (.cells cs t fr)) (hne : some g ≠ row) (hu : P.underlying ty = some d) (hd : (match d with | .struct _ | .array _ _ => true | _ => false) = true) (hin : (P.info? ty).map (·.size) = some cs.size)
    (h : RB P l.toArray Q row fuel (listed.setIfInBounds i true) (a.put oi.dst (.agg cs)) w) : RB P l.toArray Q row (fuel + 1) listed a w := by
  refine rb_takeg i hi hs hf hr hw (fun w' hb => ?_) h
  have hlt : g < w.heap.size := by
    rcases Nat.lt_or_ge g w.heap.size with h1 | h1
    · exact h1
    rw [Array.getElem?_eq_none h1] at hg; cases hg
  unfold execOp
  simp only [ho, hx, Instr.loadAt, Instr.sureAddr, Sem.run_bind, Sem.run_pure, Result.andThen_ok, run_loadVar_row w' g t ty cs fr d ((hb.block g hlt hne).trans hg) hu hd hin]
end
inductive AV where
  | sc (v : Value)
  | sl (xs : List (List AV))
  | ow (k g : Nat)
  | bx (k g off : Nat)
  | ep (cs : List AV) (off : Nat)
  | ag (cs : List AV)
  | tu (vs : List AV)
  | fn (f : Nat) (cs : List AV)
  | any
structure OP where
  rep : (Nat → Prop) → World → Nat → (Nat → Prop) → Prop
  stab : ∀ {F F' : Nat → Prop} {w w' : World} {r : Nat} {ft : Nat → Prop}, rep F w r ft → w.heap.size ≤ w'.heap.size → (∀ b, w'.heap.size ≤ b → F' b) → (∀ b o, F b → w.heap[b]? = some o → F' b ∧ w'.heap[b]? = some o) → (∀ b, ft b → w'.heap[b]? = w.heap[b]?) → rep F' w' r ft
inductive TC where
  | off
  | box (ty : TypeId) (cs : List AV)
  | own (el : TypeId) (sz : Nat) (xs : List (List AV))
  | nown (el : TypeId) (sz : Nat)
  | obj (p : OP)
def TC.blk : TC → Prop
  | .box _ _ => True
  | .own _ _ _ => True
  | _ => False
@[simp] theorem blk_box {ty : TypeId} {cs : List AV} : (TC.box ty cs).blk := trivial
@[simp] theorem blk_own {el : TypeId} {sz : Nat} {xs : List (List AV)} : (TC.own el sz xs).blk := trivial
structure TK where
  g : Nat
  c : TC
def TC.isB : TC → Bool
  | .box _ _ => true
  | .obj _ => true
  | _ => false
inductive RepS (F : Nat → Prop) (w : World) : Value → AV → Prop
  | sc (v : Value) : RepS F w v (.sc v)
  | sl0 (A : Option Addr) (c : Nat) (hc : c ≤ maxLen) : RepS F w (.slice A 0 c) (.sl [])
  | sl1 (b off n c sz : Nat) (V : Nat → Nat → Value) (xs : List (List AV)) (hn : xs.length = n) (h0 : 0 < n) (hnc : n ≤ c) (hc : c ≤ maxLen) (hsz : 0 < sz) (hf : F b)
      (hl : ∀ (i : Nat) (cs : List AV), xs[i]? = some cs → cs.length = sz) (hv : ∀ i j, i < n → j < sz → w.cell? ⟨b, off + (i * sz + j), none⟩ = some (V i j)) (h1 : ∀ i j, (V i j).oneCell' = true)
      (hr : ∀ (i j : Nat) (cs : List AV) x, xs[i]? = some cs → cs[j]? = some x → RepS F w (V i j) x) : RepS F w (.slice (some ⟨b, off, none⟩) n c) (.sl xs)
  | ag (vs : Array Value) (cs : List AV) (hs : vs.size = cs.length) (h1 : ∀ v ∈ vs, v.oneCell' = true) (hr : ∀ (j : Nat) v x, vs[j]? = some v → cs[j]? = some x → RepS F w v x) : RepS F w (.agg vs) (.ag cs)
  | tu (vs : Array Value) (cs : List AV) (hs : vs.size = cs.length) (hr : ∀ (j : Nat) v x, vs[j]? = some v → cs[j]? = some x → RepS F w v x) : RepS F w (.tuple vs) (.tu cs)
theorem blk_of_cell {w : World} {b o : Nat} {v : Value} (h : w.cell? ⟨b, o, none⟩ = some v) : ∃ x, w.heap[b]? = some x := by
  have hlt : b < w.heap.size := block_lt_of_cell h
  exact ⟨_, Array.getElem?_eq_getElem hlt⟩
theorem cell_same {w w' : World} {b o : Nat} {v : Value} {x : Obj} (h : w.cell? ⟨b, o, none⟩ = some v) (h1 : w.heap[b]? = some x) (h2 : w'.heap[b]? = some x) : w'.cell? ⟨b, o, none⟩ = some v := by
  rw [← h]
  exact World.cell?_of_block (h2.trans h1.symm)
theorem RepS.mv {F F' : Nat → Prop} {w w' : World} {v : Value} {x : AV} (h : RepS F w v x) (m : ∀ b o, F b → w.heap[b]? = some o → F' b ∧ w'.heap[b]? = some o) : RepS F' w' v x := by
  induction h with
  | sc v => exact .sc v
  | sl0 A c hc => exact .sl0 A c hc
  | sl1 b off n c sz V xs hn h0 hnc hc hsz hf hl hv h1 hr ih =>
    obtain ⟨o, ho⟩ := blk_of_cell (hv 0 0 h0 hsz)
    obtain ⟨h2, h3⟩ := m b o hf ho
    exact .sl1 b off n c sz V xs hn h0 hnc hc hsz h2 hl (fun i j hi hj => cell_same (hv i j hi hj) ho h3) h1 ih
  | ag vs cs hs h1 hr ih => exact .ag vs cs hs h1 ih
  | tu vs cs hs hr ih => exact .tu vs cs hs ih
theorem RepS.grow {F : Nat → Prop} {w w' : World} {v : Value} {x : AV} (h : RepS F w v x) (hb : Below w.heap.size w w') : RepS F w' v x :=
  h.mv fun b _ hf ho => ⟨hf, (hb.block b (Array.getElem?_eq_some_iff.1 ho).1).trans ho⟩
theorem RepS.mono {F F' : Nat → Prop} {w : World} {v : Value} {x : AV} (h : RepS F w v x) (m : ∀ b, b < w.heap.size → F b → F' b) : RepS F' w v x :=
  h.mv fun b _ hf ho => ⟨m b (Array.getElem?_eq_some_iff.1 ho).1 hf, ho⟩
abbrev Loc := Nat → Nat × Nat
def foot (ρ : Loc) (k : Nat) : TC → Nat → Prop
  | .box _ _, b => (ρ k).1 = b
  | .own _ _ _, b => (ρ k).1 = b
  | .obj _, b => (ρ k).2.testBit b = true
  | _, _ => False
theorem foot_self {ρ : Loc} {k : Nat} {c : TC} (h : c.blk) : foot ρ k c (ρ k).1 := by cases c <;> first | exact h.elim | rfl
theorem foot_loc {ρ ρ' : Loc} {k b : Nat} {c : TC} (h : ρ' k = ρ k) : foot ρ' k c b ↔ foot ρ k c b := by cases c <;> simp only [foot, h]
def Free (F : Nat → Prop) (ρ : Loc) (st : List TK) (b : Nat) : Prop := F b ∧ ∀ k tk, st[k]? = some tk → ¬ foot ρ k tk.c b
theorem Free.ne {F : Nat → Prop} {ρ : Loc} {st : List TK} {b : Nat} (h : Free F ρ st b) (k : Nat) (tk : TK) (hk : st[k]? = some tk) (hb : tk.c.blk) : (ρ k).1 ≠ b := fun e => h.2 k tk hk (e ▸ foot_self hb)
def Stale (st : List TK) (k g : Nat) : Prop := ∃ tk, st[k]? = some tk ∧ (g < tk.g ∨ (g = tk.g ∧ tk.c = .off))
inductive Rep (F : Nat → Prop) (ρ : Loc) (st : List TK) (w : World) : Value → AV → Prop
  | any (v : Value) : Rep F ρ st w v .any
  | s {v : Value} {x : AV} (h : RepS (Free F ρ st) w v x) : Rep F ρ st w v x
  | ow (k g : Nat) (el : TypeId) (sz : Nat) (xs : List (List AV)) (h : st[k]? = some ⟨g, .own el sz xs⟩) : Rep F ρ st w (.slice (some ⟨(ρ k).1, 0, none⟩) xs.length (ρ k).2) (.ow k g)
  | ow0 (k g : Nat) (el : TypeId) (sz : Nat) (h : st[k]? = some ⟨g, .nown el sz⟩) : Rep F ρ st w (.slice none 0 0) (.ow k g)
  | owd (k g : Nat) (v : Value) (h : Stale st k g) : Rep F ρ st w v (.ow k g)
  | bx (k g off : Nat) (ty : TypeId) (cs : List AV) (h : st[k]? = some ⟨g, .box ty cs⟩) : Rep F ρ st w (.pointer (some ⟨(ρ k).1, off, none⟩)) (.bx k g off)
  | ob (k g off : Nat) (p : OP) (h : st[k]? = some ⟨g, .obj p⟩) : Rep F ρ st w (.pointer (some ⟨(ρ k).1, off, none⟩)) (.bx k g off)
  | bo (k g off : Nat) (el : TypeId) (sz : Nat) (xs : List (List AV)) (h : st[k]? = some ⟨g, .own el sz xs⟩) : Rep F ρ st w (.pointer (some ⟨(ρ k).1, off, none⟩)) (.bx k g off)
  | bxd (k g off : Nat) (v : Value) (h : Stale st k g) : Rep F ρ st w v (.bx k g off)
  | ep (b base off : Nat) (cs : List AV) (V : Nat → Value) (h0 : 0 < cs.length) (hf : Free F ρ st b) (hv : ∀ j, j < cs.length → w.cell? ⟨b, base + j, none⟩ = some (V j)) (h1 : ∀ j, (V j).oneCell' = true)
      (hr : ∀ (j : Nat) x, cs[j]? = some x → RepS (Free F ρ st) w (V j) x) : Rep F ρ st w (.pointer (some ⟨b, base + off, none⟩)) (.ep cs off)
  | ag (vs : Array Value) (cs : List AV) (hs : vs.size = cs.length) (h1 : ∀ v ∈ vs, v.oneCell' = true) (hr : ∀ (j : Nat) v x, vs[j]? = some v → cs[j]? = some x → Rep F ρ st w v x) : Rep F ρ st w (.agg vs) (.ag cs)
  | tu (vs : Array Value) (cs : List AV) (hs : vs.size = cs.length) (hr : ∀ (j : Nat) v x, vs[j]? = some v → cs[j]? = some x → Rep F ρ st w v x) : Rep F ρ st w (.tuple vs) (.tu cs)
  | fn (f : Nat) (vs : Array Value) (cs : List AV) (hs : vs.size = cs.length) (hr : ∀ (j : Nat) v x, vs[j]? = some v → cs[j]? = some x → Rep F ρ st w v x) : Rep F ρ st w (.func (.func f) #[] vs) (.fn f cs)
theorem Rep.sc {F : Nat → Prop} {ρ : Loc} {st : List TK} {w : World} (v : Value) : Rep F ρ st w v (.sc v) := .s (.sc v)
structure Mv (F : Nat → Prop) (ρ : Loc) (st : List TK) (w : World) (ρ' : Loc) (st' : List TK) (w' : World) : Prop where
  free : ∀ b o, Free F ρ st b → w.heap[b]? = some o → Free F ρ' st' b ∧ w'.heap[b]? = some o
  tk : ∀ k tk, st[k]? = some tk → ∃ tk', st'[k]? = some tk' ∧ ((tk' = tk ∧ ρ' k = ρ k) ∨ tk.g < tk'.g ∨ (tk'.g = tk.g ∧ tk'.c = .off) ∨ (tk'.g = tk.g ∧ (ρ' k).1 = (ρ k).1 ∧ tk.c.isB = true ∧ tk'.c.isB = true))
def TkR (tk : TK) (l : Nat × Nat) (tk' : TK) (l' : Nat × Nat) : Prop := (tk' = tk ∧ l' = l) ∨ tk.g < tk'.g ∨ (tk'.g = tk.g ∧ tk'.c = .off) ∨ (tk'.g = tk.g ∧ l'.1 = l.1 ∧ tk.c.isB = true ∧ tk'.c.isB = true)
theorem TkR.trans {a b c : TK} {l m n : Nat × Nat} (h : TkR a l b m) (k : TkR b m c n) : TkR a l c n := by
  rcases h with ⟨rfl, rfl⟩ | h | ⟨h1, h2⟩ | ⟨h1, h2, h3, h4⟩
  · exact k
  · rcases k with ⟨rfl, rfl⟩ | k | ⟨k1, k2⟩ | ⟨k1, _⟩
    · exact .inr (.inl h)
    · exact .inr (.inl (by omega))
    · exact .inr (.inl (by omega))
    exact .inr (.inl (by omega))
  · rcases k with ⟨rfl, rfl⟩ | k | ⟨k1, k2⟩ | ⟨k1, k2, k3, k4⟩
    · exact .inr (.inr (.inl ⟨h1, h2⟩))
    · exact .inr (.inl (by omega))
    · exact .inr (.inr (.inl ⟨by omega, k2⟩))
    rw [h2] at k3; cases k3
  rcases k with ⟨rfl, rfl⟩ | k | ⟨k1, k2⟩ | ⟨k1, k2, k3, k4⟩
  · exact .inr (.inr (.inr ⟨h1, h2, h3, h4⟩))
  · exact .inr (.inl (by omega))
  · exact .inr (.inr (.inl ⟨by omega, k2⟩))
  exact .inr (.inr (.inr ⟨by omega, k2.trans h2, h3, k4⟩))
structure Bs where
  w : World
  ρ : Loc
  os : List TK
def Bs.M (B : Bs) (b : Nat) : Prop := ∃ k tk, B.os[k]? = some tk ∧ foot B.ρ k tk.c b
structure Bel (B : Bs) (w : World) : Prop where
  os : w.os = B.w.os
  tape : w.tape = B.w.tape
  output : w.output = B.w.output
  size : B.w.heap.size ≤ w.heap.size
  block : ∀ k, k < B.w.heap.size → ¬ B.M k → w.heap[k]? = B.w.heap[k]?
theorem Bel.refl (B : Bs) : Bel B B.w := ⟨rfl, rfl, rfl, Nat.le_refl _, fun _ _ _ => rfl⟩
theorem Bel.grown {B : Bs} {w w' : World} {row : Option Nat} (h : Bel B w) (g : w.grownBy w' row) (hr : ∀ b, row = some b → B.w.heap.size ≤ b ∨ B.M b) : Bel B w' :=
  ⟨g.os.trans h.os, g.tape.trans h.tape, g.output.trans h.output, Nat.le_trans h.size g.size, fun k hk hM => (g.block k (Nat.lt_of_lt_of_le hk h.size) fun e => by
    rcases hr k e.symm with h1 | h1
    · omega
    exact hM h1).trans (h.block k hk hM)⟩
theorem Bel.grow {B : Bs} {w w' : World} (h : Bel B w) (hb : Below w.heap.size w w') : Bel B w' :=
  ⟨hb.os.trans h.os, hb.tape.trans h.tape, hb.output.trans h.output, Nat.le_trans h.size hb.size, fun k hk hM => (hb.block k (Nat.lt_of_lt_of_le hk h.size)).trans (h.block k hk hM)⟩
theorem Bel.below {B : Bs} {w : World} (h : Bel B w) (h0 : B.os = []) : Below B.w.heap.size B.w w :=
  ⟨h.os, h.tape, h.output, h.size, fun k hk => h.block k hk fun ⟨j, tk, hj, _⟩ => by rw [h0] at hj; simp at hj⟩
section
variable {F : Nat → Prop} {ρ ρ' : Loc} {st st' : List TK} {w w' : World} {w0 : Bs} {v : Value} {x : AV} {a : Act} {t : List AV}
theorem Stale.mv {k g : Nat} (h : Stale st k g) (m : Mv F ρ st w ρ' st' w') : Stale st' k g := by
  obtain ⟨tk, h1, h2⟩ := h
  obtain ⟨tk', h3, h4⟩ := m.tk k tk h1
  refine ⟨tk', h3, ?_⟩
  rcases h4 with ⟨rfl, _⟩ | h4 | ⟨h4, h5⟩ | ⟨h4, _, h5, h6⟩
  · exact h2
  · rcases h2 with h2 | h2
    · exact .inl (by omega)
    exact .inl (by omega)
  · rcases h2 with h2 | h2
    · exact .inl (by omega)
    exact .inr ⟨by omega, h5⟩
  rcases h2 with h2 | h2
  · exact .inl (by omega)
  rw [h2.2] at h5; cases h5
theorem Rep.ptr {k g off : Nat} {tk : TK} (h : st[k]? = some tk) (hg : tk.g = g) (hb : tk.c.isB = true) : Rep F ρ st w (.pointer (some ⟨(ρ k).1, off, none⟩)) (.bx k g off) := by
  obtain ⟨g', c⟩ := tk
  simp only at hg
  subst hg
  cases c with
  | box ty cs => exact .bx k _ off ty cs h
  | obj p => exact .ob k _ off p h
  | _ => cases hb
theorem Rep.mv (h : Rep F ρ st w v x) (m : Mv F ρ st w ρ' st' w') : Rep F ρ' st' w' v x := by
  induction h with
  | any v => exact .any v
  | s h => exact .s (h.mv m.free)
  | ow k g el sz xs h =>
    obtain ⟨tk', h3, h4⟩ := m.tk k _ h
    rcases h4 with ⟨rfl, h5⟩ | h4 | ⟨h4, h5⟩ | ⟨h4, _, h5, h6⟩
    · rw [← h5]; exact .ow k g el sz xs h3
    · exact .owd k g _ ⟨tk', h3, .inl h4⟩
    · exact .owd k g _ ⟨tk', h3, .inr ⟨h4.symm, h5⟩⟩
    cases h5
  | ow0 k g el sz h =>
    obtain ⟨tk', h3, h4⟩ := m.tk k _ h
    rcases h4 with ⟨rfl, h5⟩ | h4 | ⟨h4, h5⟩ | ⟨h4, _, h5, h6⟩
    · exact .ow0 k g el sz h3
    · exact .owd k g _ ⟨tk', h3, .inl h4⟩
    · exact .owd k g _ ⟨tk', h3, .inr ⟨h4.symm, h5⟩⟩
    cases h5
  | owd k g v h => exact .owd k g v (h.mv m)
  | bx k g off ty cs h =>
    obtain ⟨tk', h3, h4⟩ := m.tk k _ h
    rcases h4 with ⟨rfl, h5⟩ | h4 | ⟨h4, h5⟩ | ⟨h4, h7, h5, h6⟩
    · rw [← h5]; exact .bx k g off ty cs h3
    · exact .bxd k g off _ ⟨tk', h3, .inl h4⟩
    · exact .bxd k g off _ ⟨tk', h3, .inr ⟨h4.symm, h5⟩⟩
    rw [← h7]
    exact .ptr h3 h4 h6
  | ob k g off p h =>
    obtain ⟨tk', h3, h4⟩ := m.tk k _ h
    rcases h4 with ⟨rfl, h5⟩ | h4 | ⟨h4, h5⟩ | ⟨h4, h7, h5, h6⟩
    · rw [← h5]; exact .ob k g off p h3
    · exact .bxd k g off _ ⟨tk', h3, .inl h4⟩
    · exact .bxd k g off _ ⟨tk', h3, .inr ⟨h4.symm, h5⟩⟩
    rw [← h7]
    exact .ptr h3 h4 h6
  | bo k g off el sz xs h =>
    obtain ⟨tk', h3, h4⟩ := m.tk k _ h
    rcases h4 with ⟨rfl, h5⟩ | h4 | ⟨h4, h5⟩ | ⟨h4, h7, h5, h6⟩
    · rw [← h5]; exact .bo k g off el sz xs h3
    · exact .bxd k g off _ ⟨tk', h3, .inl h4⟩
    · exact .bxd k g off _ ⟨tk', h3, .inr ⟨h4.symm, h5⟩⟩
    cases h5
  | bxd k g off v h => exact .bxd k g off v (h.mv m)
  | ep b base off cs V h0 hf hv h1 hr =>
    obtain ⟨o, ho⟩ := blk_of_cell (hv 0 h0)
    obtain ⟨h2, h3⟩ := m.free b o hf ho
    exact .ep b base off cs V h0 h2 (fun j hj => cell_same (hv j hj) ho h3) h1 fun j x hx => (hr j x hx).mv m.free
  | ag vs cs hs h1 hr ih => exact .ag vs cs hs h1 ih
  | tu vs cs hs hr ih => exact .tu vs cs hs ih
  | fn f vs cs hs hr ih => exact .fn f vs cs hs ih
structure St (F : Nat → Prop) (ρ : Loc) (st : List TK) (w0 : Bs) (w : World) : Prop where
  below : Bel w0 w
  fresh : ∀ b, w.heap.size ≤ b → F b
  box : ∀ k g ty cs, st[k]? = some ⟨g, .box ty cs⟩ → ∃ vs : Array Value, w.heap[(ρ k).1]? = some (.cells vs ty (0, 0)) ∧ vs.size = cs.length ∧ (∀ v ∈ vs, v.oneCell' = true) ∧ ∀ (j : Nat) v x, vs[j]? = some v → cs[j]? = some x → Rep F ρ st w v x
  own : ∀ k g el sz xs, st[k]? = some ⟨g, .own el sz xs⟩ → ∃ vs : List Value, w.ownsRow 0 el sz (.slice (some ⟨(ρ k).1, 0, none⟩) xs.length (ρ k).2) xs.length vs ∧ 0 < sz ∧ (∀ v ∈ vs, v.oneCell' = true) ∧ (∀ (i : Nat) (cs : List AV), xs[i]? = some cs → cs.length = sz) ∧
    ∀ (i j : Nat) (cs : List AV) v x, xs[i]? = some cs → cs[j]? = some x → vs[i * sz + j]? = some v → RepS (Free F ρ st) w v x
  obj : ∀ (k g : Nat) (p : OP), st[k]? = some ⟨g, .obj p⟩ → p.rep (Free F ρ st) w (ρ k).1 (foot ρ k (.obj p))
  ge : ∀ (k : Nat) (tk : TK) (b : Nat), st[k]? = some tk → foot ρ k tk.c b → ((w0.w.heap.size ≤ b ∨ w0.M b) ∧ F b) ∧ b < w.heap.size
  inj : ∀ (k : Nat) (tk : TK) (k' : Nat) (tk' : TK) (b : Nat), st[k]? = some tk → foot ρ k tk.c b → st[k']? = some tk' → foot ρ k' tk'.c b → k = k'
  hist : ∀ (k : Nat) (tk0 : TK), w0.os[k]? = some tk0 → ∃ tk, st[k]? = some tk ∧ TkR tk0 (w0.ρ k) tk (ρ k)
theorem St.geB (hs : St F ρ st w0 w) (k : Nat) (tk : TK) (hk : st[k]? = some tk) (hb : tk.c.blk) : ((w0.w.heap.size ≤ (ρ k).1 ∨ w0.M (ρ k).1) ∧ F (ρ k).1) ∧ (ρ k).1 < w.heap.size := hs.ge k tk _ hk (foot_self hb)
theorem St.injB (hs : St F ρ st w0 w) (k : Nat) (tk : TK) (k' : Nat) (tk' : TK) (hk : st[k]? = some tk) (hb : tk.c.blk) (hk' : st[k']? = some tk') (hb' : tk'.c.blk) (e : (ρ k).1 = (ρ k').1) : k = k' := hs.inj k tk k' tk' _ hk (foot_self hb) hk' (e ▸ foot_self hb')
theorem hist_mv {F : Nat → Prop} {ρ ρ' : Loc} {st st' : List TK} {w w' : World} {w0 : Bs} (h : ∀ (k : Nat) (tk0 : TK), w0.os[k]? = some tk0 → ∃ tk, st[k]? = some tk ∧ TkR tk0 (w0.ρ k) tk (ρ k)) (m : Mv F ρ st w ρ' st' w') : ∀ (k : Nat) (tk0 : TK), w0.os[k]? = some tk0 → ∃ tk, st'[k]? = some tk ∧ TkR tk0 (w0.ρ k) tk (ρ' k) := fun k tk0 h0 => by
  obtain ⟨tk, h1, h2⟩ := h k tk0 h0
  obtain ⟨tk', h3, h4⟩ := m.tk k tk h1
  exact ⟨tk', h3, h2.trans h4⟩
structure Fm (F : Nat → Prop) (ρ : Loc) (st : List TK) (w : World) (a : Act) (t : List AV) : Prop where
  defers : a.defers = []
  size : a.tmps.size = t.length
  rep : ∀ (i : Nat) v x, a.tmps[i]? = some v → t[i]? = some x → Rep F ρ st w v x
theorem Fm.mv (h : Fm F ρ st w a t) (m : Mv F ρ st w ρ' st' w') : Fm F ρ' st' w' a t :=
  ⟨h.defers, h.size, fun i v x hv hx => (h.rep i v x hv hx).mv m⟩
def putA (t : List AV) (d : Option Tmp) (x : AV) : List AV := match d with | some d => t.set d x | none => t
theorem Fm.put (h : Fm F ρ st w a t) (d : Option Tmp) (hr : Rep F ρ st w v x) : Fm F ρ st w (a.put d v) (putA t d x) := by
  cases d with
  | none => exact h
  | some d =>
    refine ⟨h.defers, by simp [Act.put, putA, h.size], fun i u y hu hy => ?_⟩; simp only [Act.put, putA, Array.getElem?_setIfInBounds, List.getElem?_set] at hu hy
    by_cases e : d = i
    · rw [if_pos e] at hu hy
      split at hu
      · rw [if_pos (by rw [← h.size]; assumption)] at hy
        injection hu with hu
        injection hy with hy
        subst hu hy
        exact hr
      cases hu
    rw [if_neg e] at hu hy
    exact h.rep i u y hu hy
def evA (t : List AV) : Operand → AV
  | .tmp i => t.getD i .any
  | .const v => .sc v
  | .global g => .sc (.pointer (some ⟨g, 0, none⟩))
  | .func f => .sc (.func (.func f) #[] #[])
theorem Fm.ev (h : Fm F ρ st w a t) (x : Operand) : Rep F ρ st w (a.eval x) (evA t x) := by
  cases x with
  | tmp i =>
    simp only [Act.eval, evA]
    rcases Nat.lt_or_ge i t.length with hi | hi
    · have h1 : t[i]? = some t[i] := List.getElem?_eq_getElem hi
      have h2 : a.tmps[i]? = some (a.tmps[i]'(by rw [h.size]; exact hi)) := Array.getElem?_eq_getElem (by rw [h.size]; exact hi)
      rw [Array.getD_eq_getD_getElem?, List.getD_eq_getElem?_getD, h1, h2]
      exact h.rep i _ _ h2 h1
    rw [List.getD_eq_getElem?_getD, List.getElem?_eq_none hi]
    exact .any _
  | const v => exact .sc v
  | global g => exact .sc _
  | func f => exact .sc _
theorem Rep.of_sc {u : Value} (h : Rep F ρ st w v (.sc u)) : v = u := by
  cases h with
  | s h => cases h; rfl
theorem Mv.below (hb : Below w.heap.size w w') : Mv F ρ st w ρ st w' :=
  ⟨fun b o hf h => ⟨hf, (hb.block b (Array.getElem?_eq_some_iff.1 h).1).trans h⟩, fun k tk h => ⟨tk, h, .inl ⟨rfl, rfl⟩⟩⟩
theorem Mv.refl (F : Nat → Prop) (ρ : Loc) (st : List TK) (w : World) : Mv F ρ st w ρ st w := Mv.below (Below.refl _ _)
theorem own_keep' {base : Nat} {el : TypeId} {vs : List Value} {size : Nat} {m : Nat} (h : w.ownsRow base el size v m vs) (hb : ∀ g, v.ownBlock = some g → w'.heap[g]? = w.heap[g]?) : w'.ownsRow base el size v m vs :=
  ⟨h.1, by
    rcases h.2 with ⟨h1, h2⟩ | ⟨g, cap, cur, h1, h2, h3, h4⟩
    · exact .inl ⟨h1, h2⟩
    subst h1
    exact .inr ⟨g, cap, cur, rfl, h2, (hb g rfl).trans h3, h4⟩⟩
theorem St.grow (h : St F ρ st w0 w) (hb : Below w.heap.size w w') : St F ρ st w0 w' where
  below := h.below.grow hb
  fresh := fun b hb' => h.fresh b (Nat.le_trans hb.size hb')
  box k g ty cs hk := by
    obtain ⟨vs, h1, h2, h3, h4⟩ := h.box k g ty cs hk
    exact ⟨vs, (hb.block _ (Array.getElem?_eq_some_iff.1 h1).1).trans h1, h2, h3, fun j v x hv hx => (h4 j v x hv hx).mv (Mv.below hb)⟩
  own k g el sz xs hk := by
    obtain ⟨vs, h1, h2, h3, h4, h5⟩ := h.own k g el sz xs hk
    exact ⟨vs, own_keep' h1 fun g' hg => hb.block g' (h1.lt g' hg).2, h2, h3, h4, fun i j cs v x a b c => (h5 i j cs v x a b c).grow hb⟩
  obj k g p hk := p.stab (h.obj k g p hk) hb.size (fun b hb' => ⟨h.fresh b (Nat.le_trans hb.size hb'), fun j tk hj hf => by have := (h.ge j tk b hj hf).2; have := hb.size; omega⟩) (fun b o hf ho => ⟨hf, (hb.block b (Array.getElem?_eq_some_iff.1 ho).1).trans ho⟩) (fun b hf => hb.block b (h.ge k _ b hk hf).2)
  ge k tk b h1 h2 := ⟨(h.ge k tk b h1 h2).1, Nat.lt_of_lt_of_le (h.ge k tk b h1 h2).2 hb.size⟩
  inj := h.inj
  hist := hist_mv h.hist (Mv.below (F := F) hb)
theorem get_set {st : List TK} {k j : Nat} {tk q : TK} (hk : k < st.length) : (st.set k tk)[j]? = some q → (j = k ∧ q = tk) ∨ (j ≠ k ∧ st[j]? = some q) := by
  intro h; rw [List.getElem?_set] at h
  split at h
  · rename_i e
    try rw [if_pos (by omega)] at h
    injection h with h
    exact .inl ⟨e.symm, h.symm⟩
  rename_i e
  exact .inr ⟨fun e' => e e'.symm, h⟩
theorem St.upd (hs : St F ρ st w0 w) {k : Nat} {tk tk' : TK} (hk : st[k]? = some tk) (hρ : ∀ j, j ≠ k → ρ' j = ρ j) (hbel : Bel w0 w') (hsz : w.heap.size ≤ w'.heap.size) (hmv : Mv F ρ st w ρ' (st.set k tk') w') (hkeep : ∀ j q b, j ≠ k → st[j]? = some q → foot ρ j q.c b → w'.heap[b]? = w.heap[b]?)
    (hge : ∀ b, foot ρ' k tk'.c b → ((w0.w.heap.size ≤ b ∨ w0.M b) ∧ F b) ∧ b < w'.heap.size) (hdis : ∀ j q b, j ≠ k → st[j]? = some q → foot ρ j q.c b → foot ρ' k tk'.c b → False)
    (hbox : ∀ ty cs, tk'.c = .box ty cs → ∃ vs : Array Value, w'.heap[(ρ' k).1]? = some (.cells vs ty (0, 0)) ∧ vs.size = cs.length ∧ (∀ v ∈ vs, v.oneCell' = true) ∧ ∀ (j : Nat) v x, vs[j]? = some v → cs[j]? = some x → Rep F ρ' (st.set k tk') w' v x)
    (hown : ∀ el sz xs, tk'.c = .own el sz xs → ∃ vs : List Value, w'.ownsRow 0 el sz (.slice (some ⟨(ρ' k).1, 0, none⟩) xs.length (ρ' k).2) xs.length vs ∧ 0 < sz ∧ (∀ v ∈ vs, v.oneCell' = true) ∧ (∀ (i : Nat) (cs : List AV), xs[i]? = some cs → cs.length = sz) ∧
      ∀ (i j : Nat) (cs : List AV) v x, xs[i]? = some cs → cs[j]? = some x → vs[i * sz + j]? = some v → RepS (Free F ρ' (st.set k tk')) w' v x)
    (hobj : ∀ p, tk'.c = .obj p → p.rep (Free F ρ' (st.set k tk')) w' (ρ' k).1 (foot ρ' k (.obj p))) : St F ρ' (st.set k tk') w0 w' := by
  have hklt := (List.getElem?_eq_some_iff.1 hk).1
  have hft : ∀ j c b, j ≠ k → foot ρ' j c b → foot ρ j c b := fun j c b hj hf => (foot_loc (hρ j hj)).1 hf
  refine ⟨hbel, fun b hb => hs.fresh b (Nat.le_trans hsz hb), ?_, ?_, ?_, ?_, ?_, hist_mv hs.hist hmv⟩
  · intro j gg ty cs hj
    rcases get_set hklt hj with ⟨rfl, he⟩ | ⟨hne, hj'⟩
    · exact hbox ty cs (by rw [← he])
    obtain ⟨us, h1, h2, h3, h4⟩ := hs.box j gg ty cs hj'
    rw [hρ j hne]
    exact ⟨us, (hkeep j _ _ hne hj' rfl).trans h1, h2, h3, fun j v x hv hx => (h4 j v x hv hx).mv hmv⟩
  · intro j gg el sz xs hj
    rcases get_set hklt hj with ⟨rfl, he⟩ | ⟨hne, hj'⟩
    · exact hown el sz xs (by rw [← he])
    obtain ⟨us, h1, h2, h3, h4, h5⟩ := hs.own j gg el sz xs hj'
    rw [hρ j hne]
    exact ⟨us, own_keep' h1 fun g' hg => by injection hg with hg; subst hg; exact hkeep j _ _ hne hj' rfl, h2, h3, h4, fun i j cs v x a b c => (h5 i j cs v x a b c).mv hmv.free⟩
  · intro j gg p hj
    rcases get_set hklt hj with ⟨rfl, he⟩ | ⟨hne, hj'⟩
    · exact hobj p (by rw [← he])
    have h1 := hs.obj j gg p hj'
    have e : foot ρ' j (.obj p) = foot ρ j (.obj p) := by funext b; exact propext (foot_loc (hρ j hne))
    rw [hρ j hne, e]
    refine p.stab h1 hsz (fun b hb => ⟨hs.fresh b (Nat.le_trans hsz hb), fun i q hq hf => ?_⟩) hmv.free (fun b hf => hkeep j _ b hne hj' hf)
    rcases get_set hklt hq with ⟨rfl, rfl⟩ | ⟨hi, hq'⟩
    · have := (hge b hf).2; omega
    have := (hs.ge i q b hq' (hft i _ b hi hf)).2; omega
  · intro j q b hq hf
    rcases get_set hklt hq with ⟨rfl, rfl⟩ | ⟨hj, hq'⟩
    · exact hge b hf
    have := hs.ge j q b hq' (hft j _ b hj hf)
    exact ⟨this.1, Nat.lt_of_lt_of_le this.2 hsz⟩
  intro i q i' q' b hi hf hi' hf'
  rcases get_set hklt hi with ⟨rfl, rfl⟩ | ⟨hj, hq⟩
  · rcases get_set hklt hi' with ⟨rfl, rfl⟩ | ⟨hj', hq'⟩
    · rfl
    exact (hdis i' q' b hj' hq' (hft i' _ b hj' hf') hf).elim
  rcases get_set hklt hi' with ⟨rfl, rfl⟩ | ⟨hj', hq'⟩
  · exact (hdis i q b hj hq (hft i _ b hj hf) hf').elim
  exact hs.inj i q i' q' b hq (hft i _ b hj hf) hq' (hft i' _ b hj' hf')
theorem Mv.upd {k : Nat} {tk tk' : TK} (hk : st[k]? = some tk) (hρ : ∀ j, j ≠ k → ρ' j = ρ j) (hfree : ∀ b o, Free F ρ st b → w.heap[b]? = some o → ¬ foot ρ' k tk'.c b ∧ w'.heap[b]? = some o) (htk : TkR tk (ρ k) tk' (ρ' k)) : Mv F ρ st w ρ' (st.set k tk') w' := by
  have hklt := (List.getElem?_eq_some_iff.1 hk).1
  refine ⟨fun b o hf ho => ⟨⟨hf.1, fun j q hq hf' => ?_⟩, (hfree b o hf ho).2⟩, fun j q hq => ?_⟩
  · rcases get_set hklt hq with ⟨rfl, rfl⟩ | ⟨hj, hq'⟩
    · exact (hfree b o hf ho).1 hf'
    exact hf.2 j q hq' ((foot_loc (hρ j hj)).1 hf')
  by_cases hj : j = k
  · subst hj
    rw [hk] at hq
    injection hq with hq
    subst hq
    exact ⟨tk', by rw [List.getElem?_set_self hklt], htk⟩
  exact ⟨q, by rw [List.getElem?_set_ne (fun e => hj e.symm)]; exact hq, .inl ⟨rfl, hρ j hj⟩⟩
end
abbrev APost := Exit → List AV → List TK → Prop
def CP (F : Nat → Prop) (Q : APost) (w0 : Bs) (e : Exit) (a : Act) (w : World) : Prop := ∃ ρ t st, St F ρ st w0 w ∧ Fm F ρ st w a t ∧ Q e t st
def AW (P : Program) (c : Code) (Q : APost) (t : List AV) (st : List TK) : Prop := ∀ F ρ w0 w a, St F ρ st w0 w → Fm F ρ st w a t → c.wp P (CP F Q w0) a w
def thenA (next : List AV → List TK → Prop) (Q : APost) : APost
  | .normal, t, st => next t st
  | e, t, st => Q e t st
def inBlockA (id : Nat) (Q : APost) : APost
  | .exit id', t, st => if id' = id then Q .normal t st else Q (.exit id') t st
  | e, t, st => Q e t st
theorem least (p : Nat → Prop) (h : ∃ n, p n) : ∃ n, p n ∧ ∀ m, p m → n ≤ m := by
  obtain ⟨n, hn⟩ := h
  induction n using Nat.strongRecOn with
  | _ n ih =>
    by_cases hm : ∃ m, m < n ∧ p m
    · obtain ⟨m, h1, h2⟩ := hm
      exact ih m h1 h2
    refine ⟨n, hn, fun m hp => ?_⟩
    rcases Nat.lt_or_ge m n with h1 | h1
    · exact absurd ⟨m, h1, hp⟩ hm
    exact h1
open Classical in
noncomputable def leastN (p : Nat → Prop) : Nat := if h : ∃ n, p n then Classical.choose (least p h) else 0
theorem leastN_spec {p : Nat → Prop} (h : ∃ n, p n) : p (leastN p) ∧ ∀ m, p m → leastN p ≤ m := by
  unfold leastN
  rw [dif_pos h]
  exact Classical.choose_spec (least p h)
section
variable {P : Program} {Q Q' : APost} {t : List AV} {st : List TK}
theorem AW.mono {c : Code} (h : AW P c Q t st) (hq : ∀ e t st, Q e t st → Q' e t st) : AW P c Q' t st :=
  fun F ρ w0 w a hs hf => wp_mono (h F ρ w0 w a hs hf) fun _ _ _ ⟨ρ', t', st', h1, h2, h3⟩ => ⟨ρ', t', st', h1, h2, hq _ _ _ h3⟩
theorem AW.skip (h : Q .normal t st) : AW P .skip Q t st := fun _ ρ _ _ _ hs hf => wp_skip ⟨ρ, t, st, hs, hf, h⟩
theorem AW.label {l : Nat} (h : Q .normal t st) : AW P (.label l) Q t st := fun _ ρ _ _ _ hs hf => wp_label ⟨ρ, t, st, hs, hf, h⟩
theorem AW.exit {id : Nat} (h : Q (.exit id) t st) : AW P (.exit id) Q t st := fun _ ρ _ _ _ hs hf => wp_exit ⟨ρ, t, st, hs, hf, h⟩
theorem AW.goto {l : Nat} (h : Q (.goto l) t st) : AW P (.goto l) Q t st := fun _ ρ _ _ _ hs hf => wp_goto ⟨ρ, t, st, hs, hf, h⟩
theorem AW.ret (h : Q .ret t st) : AW P .ret Q t st := fun _ ρ _ _ _ hs hf => wp_ret ⟨ρ, t, st, hs, hf, h⟩
theorem AW.seq {x y : Code} (h : AW P x (thenA (fun t st => AW P y Q t st) Q) t st) : AW P (.seq x y) Q t st := fun F ρ w0 w a hs hf =>
  wp_seq (wp_mono (h F ρ w0 w a hs hf) fun e a' w' ⟨ρ', t', st', h1, h2, h3⟩ => by
    cases e with
    | normal => exact h3 F ρ' w0 w' a' h1 h2
    | _ => exact ⟨ρ', t', st', h1, h2, h3⟩)
theorem AW.cond {c : Operand} {x y : Code} {b : Bool} (hc : evA t c = .sc (.bool b)) (ht : b = true → AW P x Q t st) (hf : b = false → AW P y Q t st) : AW P (.cond c x y) Q t st := fun F ρ w0 w a hs hm => by
  have he := hm.ev c
  rw [hc] at he
  exact wp_cond_split he.of_sc (fun e => ht e F ρ w0 w a hs hm) (fun e => hf e F ρ w0 w a hs hm)
theorem AW.block {id : Nat} {c : Code} (h : AW P c (inBlockA id Q) t st) : AW P (.block id c) Q t st := fun F ρ w0 w a hs hm =>
  wp_block (wp_mono (h F ρ w0 w a hs hm) fun e a' w' ⟨ρ', t', st', h1, h2, h3⟩ => by
    cases e with
    | exit id' =>
      simp only [Exit.inBlock, inBlockA] at h3 ⊢
      split
      · rename_i he
        rw [if_pos he] at h3
        exact ⟨ρ', t', st', h1, h2, h3⟩
      rename_i he
      rw [if_neg he] at h3
      exact ⟨ρ', t', st', h1, h2, h3⟩
    | _ => exact ⟨ρ', t', st', h1, h2, h3⟩)
theorem AW.loop {c : Code} (I : Nat → List AV → List TK → Prop) (m : Nat) (h0 : I m t st) (round : ∀ n t st, I n t st → AW P c (thenA (fun t' st' => ∃ m, m < n ∧ I m t' st') Q) t st) : AW P (.loop c) Q t st := fun F ρ w0 w a hs hm => by
  let p (a' : Act) (w' : World) (n : Nat) : Prop := ∃ ρ t st, St F ρ st w0 w' ∧ Fm F ρ st w' a' t ∧ I n t st
  refine wp_loop (fun a' w' => ∃ n, p a' w' n) (fun a' w' => leastN (p a' w')) ⟨m, ρ, t, st, hs, hm, h0⟩ fun a' w' hI => ?_; obtain ⟨⟨ρ1, t1, st1, h1, h2, h3⟩, _⟩ := leastN_spec hI; refine wp_mono (round _ t1 st1 h3 F ρ1 w0 w' a' h1 h2) fun e a2 w2 ⟨ρ2, t2, st2, g1, g2, g3⟩ => ?_
  cases e with
  | normal =>
    obtain ⟨m', hlt, hI'⟩ := g3
    have hp : p a2 w2 m' := ⟨ρ2, t2, st2, g1, g2, hI'⟩
    exact ⟨⟨m', hp⟩, Nat.lt_of_le_of_lt ((leastN_spec ⟨m', hp⟩).2 m' hp) hlt⟩
  | _ => exact ⟨ρ2, t2, st2, g1, g2, g3⟩
end
def AL (P : Program) (ops : Array Oper) (K : List AV → List TK → Prop) (l : List Oper) (t : List AV) (st : List TK) : Prop :=
  ∀ F ρ w0 w a, St F ρ st w0 w → Fm F ρ st w a t → ∀ Q : Exit → Act → World → Prop, (∀ ρ' t' st' w' a', St F ρ' st' w0 w' → Fm F ρ' st' w' a' t' → K t' st' → Q .normal a' w') → wpList P ops Q l a w
def AOp (P : Program) (o : Oper) (t : List AV) (st : List TK) (K : AV → List TK → Prop) : Prop :=
  ∀ F ρ w0 w a, St F ρ st w0 w → Fm F ρ st w a t → ∀ (next : Act → World → Prop) (Q : Exit → Act → World → Prop), (∀ v w' ρ' st' x, St F ρ' st' w0 w' → Mv F ρ st w ρ' st' w' → Rep F ρ' st' w' v x → K x st' → next (a.put o.dst v) w') → o.wp P a w next Q
def AOpB (P : Program) (o : Oper) (t : List AV) (st : List TK) (K : AV → List TK → Prop) : Prop :=
  ∀ F ρ w0 w a, St F ρ st w0 w → Fm F ρ st w a t → ∀ (next : Act → World → Prop) (Q : Exit → Act → World → Prop), (∀ v w' ρ' st' x, St F ρ' st' w0 w' → Mv F ρ st w ρ' st' w' → Rep F ρ' st' w' v x → Below w.heap.size w w' → K x st' → next (a.put o.dst v) w') → o.wp P a w next Q
def ARd (P : Program) (o : Oper) (t : List AV) (st : List TK) (x : AV) : Prop :=
  ∀ F ρ w0 w a, St F ρ st w0 w → Fm F ρ st w a t → ∃ v, Rep F ρ st w v x ∧ ∀ w', Below w.heap.size w w' → (execOp a.eval o).run P w' = .ok (.value v) w'
section
variable {P : Program} {ops : Array Oper} {K : List AV → List TK → Prop} {o : Oper} {rest l : List Oper} {t : List AV} {st : List TK} {Q : APost} {x : AV}
theorem AOpB.op {k : AV → List TK → Prop} (h : AOpB P o t st k) : AOp P o t st k := fun F ρ w0 w a hs hm next Q hn => h F ρ w0 w a hs hm next Q fun v w' ρ' st' x h1 h2 h3 _ h5 => hn v w' ρ' st' x h1 h2 h3 h5
theorem ARd.opB {k : AV → List TK → Prop} (h : ARd P o t st x) (hk : k x st) : AOpB P o t st k := fun F ρ w0 w a hs hm next Q hn => by
  obtain ⟨v, h1, h2⟩ := h F ρ w0 w a hs hm
  unfold Oper.wp
  rw [h2 w (Below.refl _ _)]
  exact hn v w ρ st x hs (Mv.refl _ _ _ _) h1 (Below.refl _ _) hk
theorem AL.nil (h : K t st) : AL P ops K [] t st := fun _ ρ _ w a hs hm _ hq => hq ρ t st w a hs hm h
theorem AL.op (hg : o.guard = none) (h : AOp P o t st fun x st' => AL P ops K rest (putA t o.dst x) st') : AL P ops K (o :: rest) t st := fun F ρ w0 w a hs hm Q hq =>
  wpList_plain hg fun k hk => h F ρ w0 w a hs hm k Q fun _ w' ρ' st' x h1 h2 h3 h4 => hk _ _ (h4 F ρ' w0 w' _ h1 ((hm.mv h2).put _ h3) Q hq)
theorem AL.rd (hg : o.guard = none) (h : ARd P o t st x) (hk : AL P ops K rest (putA t o.dst x) st) : AL P ops K (o :: rest) t st := AL.op hg (AOpB.op (ARd.opB h hk))
theorem yielded_of {F : Nat → Prop} {ρ : Loc} {w : World} {a : Act} (hm : Fm F ρ st w a t) {j d : Nat} {b : Bool} (hd : (ops[j]?).bind (·.dst) = some d) (hb : evA t (.tmp d) = .sc (.bool b)) : yielded ops a.tmps j = some b := by
  unfold yielded
  rw [hd]
  simp only [Option.bind_some]
  have hd' : d < t.length := by
    rcases Nat.lt_or_ge d t.length with h | h
    · exact h
    simp [evA, List.getD_eq_getElem?_getD, List.getElem?_eq_none h] at hb
  have h1 : t[d]? = some t[d] := List.getElem?_eq_getElem hd'
  have h2 : a.tmps[d]? = some (a.tmps[d]'(by rw [hm.size]; exact hd')) := Array.getElem?_eq_getElem (by rw [hm.size]; exact hd')
  have h3 := hm.rep d _ _ h2 h1
  have h4 : t[d] = .sc (.bool b) := by simpa [evA, List.getD_eq_getElem?_getD, h1] using hb
  rw [h4] at h3
  rw [h2, h3.of_sc]
theorem AL.on {j d : Nat} {b : Bool} (hg : o.guard = some (j, b)) (hd : (ops[j]?).bind (·.dst) = some d) (hb : evA t (.tmp d) = .sc (.bool b)) (h : AOp P o t st fun x st' => AL P ops K rest (putA t o.dst x) st') : AL P ops K (o :: rest) t st := fun F ρ w0 w a hs hm Q hq =>
  wpList_step fun k hk => by
    rw [if_pos (by unfold Region.wanted; rw [hg]; simp only []; rw [yielded_of hm hd hb]; simp)]
    exact h F ρ w0 w a hs hm k Q fun _ w' ρ' st' x h1 h2 h3 h4 => hk _ _ (h4 F ρ' w0 w' _ h1 ((hm.mv h2).put _ h3) Q hq)
theorem AL.off {j d : Nat} {b c : Bool} (hg : o.guard = some (j, b)) (hd : (ops[j]?).bind (·.dst) = some d) (hb : evA t (.tmp d) = .sc (.bool c)) (hne : c = !b) (h : AL P ops K rest (putA t o.dst (.sc undef)) st) : AL P ops K (o :: rest) t st := fun F ρ w0 w a hs hm Q hq =>
  wpList_step fun k hk => by
    rw [if_neg (by unfold Region.wanted; rw [hg]; simp only []; rw [yielded_of hm hd hb, hne]; cases b <;> simp)]
    exact hk _ _ (h F ρ w0 w _ hs (hm.put _ (.sc _)) Q hq)
theorem yielded_of' {F : Nat → Prop} {ρ : Loc} {w : World} {a : Act} (hm : Fm F ρ st w a t) {j d : Nat} {v : Value} (hd : (ops[j]?).bind (·.dst) = some d) (hb : evA t (.tmp d) = .sc v) : yielded ops a.tmps j = match v with | .bool c => some c | _ => none := by
  unfold yielded
  rw [hd]
  simp only [Option.bind_some]
  have hd' : d < t.length := by
    rcases Nat.lt_or_ge d t.length with h | h
    · exact h
    simp [evA, List.getD_eq_getElem?_getD, List.getElem?_eq_none h] at hb
  have h1 : t[d]? = some t[d] := List.getElem?_eq_getElem hd'
  have h2 : a.tmps[d]? = some (a.tmps[d]'(by rw [hm.size]; exact hd')) := Array.getElem?_eq_getElem (by rw [hm.size]; exact hd')
  have h3 := hm.rep d _ _ h2 h1
  have h4 : t[d] = .sc v := by simpa [evA, List.getD_eq_getElem?_getD, h1] using hb
  rw [h4] at h3
  rw [h2, h3.of_sc]
  cases v <;> rfl
theorem AL.offu {j d : Nat} {b : Bool} {v : Value} (hg : o.guard = some (j, b)) (hd : (ops[j]?).bind (·.dst) = some d) (hb : evA t (.tmp d) = .sc v) (hv : (match v with | .bool _ => false | _ => true) = true) (h : AL P ops K rest (putA t o.dst (.sc undef)) st) : AL P ops K (o :: rest) t st := fun F ρ w0 w a hs hm Q hq =>
  wpList_step fun k hk => by
    have hy := yielded_of' hm hd hb
    rw [if_neg (by unfold Region.wanted; rw [hg]; simp only []; rw [hy]; cases v <;> simp_all)]
    exact hk _ _ (h F ρ w0 w _ hs (hm.put _ (.sc _)) Q hq)
theorem AW.region {id : Nat} (h : AL P l.toArray (fun t st => Q .normal t st) l t st) : AW P (.region id l.toArray false) Q t st := fun F ρ w0 w a hs hm =>
  wp_region_lit (h F ρ w0 w a hs hm _ fun ρ' t' st' _ _ h1 h2 h3 => ⟨ρ', t', st', h1, h2, h3⟩)
def AD (P : Program) (l : List Oper) (K : List AV → List TK → Prop) (fuel : Nat) (listed : Array Bool) (t : List AV) (st : List TK) : Prop :=
  ∀ F ρ w0 w a, St F ρ st w0 w → Fm F ρ st w a t → ∀ Q : Exit → Act → World → Prop, (∀ ρ' t' st' w' a', St F ρ' st' w0 w' → Fm F ρ' st' w' a' t' → K t' st' → Q .normal a' w') → RB P l.toArray Q none fuel listed a w
theorem AW.draw {id : Nat} (hp : P.follows .mixedOrders = true) (h : AD P l (fun t st => Q .normal t st) l.length (Array.replicate l.length false) t st) : AW P (.region id l.toArray true) Q t st := fun F ρ w0 w a hs hm =>
  rb_start hp (h F ρ w0 w.drew a (hs.grow (Below.refl _ _).drew) (hm.mv (Mv.below (Below.refl _ _).drew)) _ fun ρ' t' st' _ _ h1 h2 h3 => ⟨ρ', t', st', h1, h2, h3⟩)
def WantA (ops : Array Oper) (o : Oper) (t : List AV) (y : Bool) : Prop := match o.guard with
  | none => y = true
  | some (j, b) => ∃ d v, (ops[j]?).bind (·.dst) = some d ∧ evA t (.tmp d) = .sc v ∧ y = (match v with | .bool c => c == b | _ => false)
theorem WantA.run {y : Bool} (h : WantA ops o t y) {F : Nat → Prop} {ρ : Loc} {w : World} {a : Act} (hm : Fm F ρ st w a t) : Region.wanted o (yielded ops a.tmps) = y := by
  unfold WantA at h
  unfold Region.wanted
  cases hg : o.guard with
  | none => rw [hg] at h; exact h.symm
  | some p =>
    obtain ⟨j, b⟩ := p
    rw [hg] at h
    obtain ⟨d, v, h1, h2, rfl⟩ := h
    simp only []
    rw [yielded_of' hm h1 h2]
    cases v with
    | bool c => cases c <;> cases b <;> rfl
    | _ => rfl
theorem AD.take {fuel : Nat} {listed : Array Bool} (i : Nat) (hi : l[i]? = some o) (hs : Region.noSelect l.toArray = true) (hf : Region.free .any l.toArray listed i = true) (hr : (Region.ready .any l.toArray listed).contains i = true)
    (hw : WantA l.toArray o t true) (h : ARd P o t st x) (hk : AD P l K fuel (listed.setIfInBounds i true) (putA t o.dst x) st) : AD P l K (fuel + 1) listed t st := fun F ρ w0 w a hs' hm Q hq => by
  obtain ⟨v, h1, h2⟩ := h F ρ w0 w a hs' hm
  exact rb_take i hi hs hf hr (hw.run hm) (fun w' hb => h2 w' hb) (hk F ρ w0 w _ hs' (hm.put _ h1) Q hq)
theorem AD.skip {fuel : Nat} {listed : Array Bool} (i : Nat) (hi : l[i]? = some o) (hs : Region.noSelect l.toArray = true) (hf : Region.free .any l.toArray listed i = true) (hr : (Region.ready .any l.toArray listed).contains i = true)
    (hw : WantA l.toArray o t false) (hk : AD P l K fuel (listed.setIfInBounds i true) (putA t o.dst (.sc undef)) st) : AD P l K (fuel + 1) listed t st := fun F ρ w0 w a hs' hm Q hq =>
  rb_skip i hi hs hf hr (hw.run hm) (hk F ρ w0 w _ hs' (hm.put _ (.sc _)) Q hq)
theorem AD.move {fuel : Nat} {listed : Array Bool} (i : Nat) (hi : l[i]? = some o) (hr : Region.ready .any l.toArray listed = [i]) (hw : WantA l.toArray o t true)
    (h : AOpB P o t st fun x st' => AD P l K fuel (listed.setIfInBounds i true) (putA t o.dst x) st') : AD P l K (fuel + 1) listed t st := fun F ρ w0 w a hs' hm Q hq =>
  rb_move i hi hr (hw.run hm) fun k hk => h F ρ w0 w a hs' hm k (NoPanic Q) fun _ w' ρ' st' x h1 h2 h3 h4 h5 => hk _ _ h4 (h5 F ρ' w0 w' _ h1 ((hm.mv h2).put _ h3) Q hq)
theorem AD.done {fuel : Nat} {listed : Array Bool} (hr : Region.ready .any l.toArray listed = []) (h : K t st) : AD P l K fuel listed t st := fun _ ρ _ w a hs hm _ hq => rb_done hr (hq ρ t st w a hs hm h)
end
def AV.vals : List AV → Option (List Value)
  | [] => some []
  | .sc v :: cs => match AV.vals cs with | some l => some (v :: l) | none => none
  | _ => none
def AV.val : AV → Option Value
  | .sc v => some v
  | .ag cs => match AV.vals cs with | some l => some (.agg l.toArray) | none => none
  | _ => none
def evV (t : List AV) (x : Operand) : Option Value := (evA t x).val
theorem vals_eq : ∀ (cs : List AV) (l : List Value), AV.vals cs = some l → cs = l.map AV.sc
  | [], l, h => by simp [AV.vals] at h; subst h; rfl
  | c :: cs, l, h => by
    cases c with
    | sc v =>
      simp only [AV.vals] at h
      cases hm : AV.vals cs with
      | none => rw [hm] at h; cases h
      | some l' =>
        rw [hm] at h
        injection h with h
        subst h
        rw [vals_eq cs l' hm]
        rfl
    | _ => simp [AV.vals] at h
section
variable {F : Nat → Prop} {ρ : Loc} {st : List TK} {w : World} {w0 : Bs} {v u : Value} {x : AV} {a : Act} {t : List AV}
theorem Rep.of_val (h : Rep F ρ st w v x) (hx : x.val = some u) : v = u := by
  cases x with
  | sc v' => simp [AV.val] at hx; subst hx; exact h.of_sc
  | ag cs =>
    simp only [AV.val] at hx
    cases h1 : AV.vals cs with
    | none => rw [h1] at hx; cases hx
    | some l =>
    rw [h1] at hx
    injection hx with hx
    subst hx
    have hc := vals_eq cs l h1
    subst hc
    have key : ∀ vs : Array Value, vs.size = (l.map AV.sc).length → (∀ (j : Nat) v x, vs[j]? = some v → (l.map AV.sc)[j]? = some x → Rep F ρ st w v x) → vs = l.toArray := by
      intro vs hs hr; apply Array.ext_getElem?; intro j
      rcases Nat.lt_or_ge j vs.size with hj | hj
      · have hj' : j < l.length := by rw [hs] at hj; simpa using hj
        have h2 := hr j _ (.sc l[j]) (Array.getElem?_eq_getElem hj) (by simp [hj'])
        rw [Array.getElem?_eq_getElem hj, h2.of_sc]
        simp [hj']
      rw [Array.getElem?_eq_none hj, Array.getElem?_eq_none (by rw [hs] at hj; simpa using hj)]
    cases h with
    | s h =>
      cases h with
      | ag vs _ hs h1 hr => rw [key vs hs fun j v x a b => .s (hr j v x a b)]
    | ag vs _ hs h1 hr => rw [key vs hs hr]
  | _ => simp [AV.val] at hx
theorem Fm.val (h : Fm F ρ st w a t) {x : Operand} (hx : evV t x = some u) : a.eval x = u := (h.ev x).of_val hx
end
section
variable {P : Program} {o : Oper} {t : List AV} {st : List TK} {x y c : Operand} {vx vy v : Value} {z z' : AV} {zs : List AV}
theorem rd_move (ho : o.op = .move x) (hx : evA t x = z) : ARd P o t st z := fun F ρ w0 w a hs hm => ⟨_, hx ▸ hm.ev x, fun w' _ => by simp only [execOp, ho]; rfl⟩
theorem rd_assign (ho : o.op = .assign x) (hx : evA t x = z) : ARd P o t st z := fun F ρ w0 w a hs hm => ⟨_, hx ▸ hm.ev x, fun w' _ => by simp only [execOp, ho]; rfl⟩
theorem rd_pick_t (ho : o.op = .pick c x y) (hc : evV t c = some (.bool true)) (hx : evA t x = z) : ARd P o t st z := fun F ρ w0 w a hs hm => ⟨_, hx ▸ hm.ev x, fun w' _ => by simp only [execOp, ho, hm.val hc]; rfl⟩
theorem rd_pick_f (ho : o.op = .pick c x y) (hc : evV t c = some (.bool false)) (hx : evA t y = z) : ARd P o t st z := fun F ρ w0 w a hs hm => ⟨_, hx ▸ hm.ev y, fun w' _ => by simp only [execOp, ho, hm.val hc]; rfl⟩
theorem rd_bin {op : BinOp} {xt yt : TypeId} (ho : o.op = .binOp op xt x y yt) (hx : evV t x = some vx) (hy : evV t y = some vy) (hr : ∀ w, (eqGuard op xt x y vx vy >>= fun _ => binOp op xt vx vy).run P w = .ok v w) : ARd P o t st (.sc v) := fun F ρ w0 w a hs hm => ⟨v, .sc v, fun w' _ => by
  have h := hr w'
  rw [Sem.run_bind] at h
  simp only [execOp, ho, hm.val hx, hm.val hy, Sem.run_bind, h, Result.andThen_ok, Sem.run_pure]⟩
theorem rd_un {op : UnOp} {xt : TypeId} (ho : o.op = .unOp op xt x) (hx : evV t x = some vx) (hr : ∀ w, (Op.unary op vx).run P w = .ok v w) : ARd P o t st (.sc v) := fun F ρ w0 w a hs hm => ⟨v, .sc v, fun w' _ => by
  simp only [execOp, ho, hm.val hx, Sem.run_bind, hr w', Result.andThen_ok, Sem.run_pure]⟩
theorem rd_extract {i : Nat} {vs : List AV} (ho : o.op = .extract x i) (hx : evA t x = .tu vs) (hi : vs[i]? = some z) : ARd P o t st z := fun F ρ w0 w a hs hm => by
  have h := hm.ev x
  rw [hx] at h
  have key : ∀ us : Array Value, us.size = vs.length → a.eval x = .tuple us → ∀ v, us[i]? = some v → ∀ w', Below w.heap.size w w' → (execOp a.eval o).run P w' = .ok (.value v) w' := fun us _ he v hv w' _ => by
    simp only [execOp, ho, he, Instr.extract, hv]
    rfl
  generalize hq : a.eval x = q at *
  cases h with
  | s h =>
    cases h with
    | tu us _ hsz hr =>
      have hlt : i < us.size := by rw [hsz]; exact (List.getElem?_eq_some_iff.1 hi).1
      have hv := Array.getElem?_eq_getElem hlt
      exact ⟨_, .s (hr i _ z hv hi), key us hsz rfl _ hv⟩
  | tu us _ hsz hr =>
    have hlt : i < us.size := by rw [hsz]; exact (List.getElem?_eq_some_iff.1 hi).1
    have hv := Array.getElem?_eq_getElem hlt
    exact ⟨_, hr i _ z hv hi, key us hsz rfl _ hv⟩
abbrev sv (s : List UInt8) : Value := .string ⟨s.toArray⟩
theorem rd_seq {xt yt : TypeId} {l m : List UInt8} (ho : o.op = .binOp .eql xt x y yt) (hx : evV t x = some (sv l)) (hy : evV t y = some (sv m)) : ARd P o t st (.sc (.bool (l == m))) :=
  rd_bin ho hx hy fun w => by simp [eqGuard, binOp, Op.stringOp, Sem.run_bind]
theorem rd_sne {xt yt : TypeId} {l m : List UInt8} (ho : o.op = .binOp .neq xt x y yt) (hx : evV t x = some (sv l)) (hy : evV t y = some (sv m)) : ARd P o t st (.sc (.bool (!(l == m)))) :=
  rd_bin ho hx hy fun w => by simp [eqGuard, binOp, Op.stringOp, Sem.run_bind]
def intK (P : Program) (t : TypeId) : Option IntKind := match P.underlying t with | some (.int k) => some k | _ => none
def isStr (P : Program) (t : TypeId) : Bool := match P.underlying t with | some .string => true | _ => false
def elT (P : Program) (t : TypeId) : Option (TypeId × Nat) := match P.underlying t with | some (.slice e) => (P.info? e).map fun i => (e, i.size) | _ => none
def fOff (P : Program) (s : TypeId) (f : Nat) : Option Nat := match P.underlying s with
  | some (.struct fs) => (fs[f]?).bind fun q => (P.info? q.type).bind fun i => if i.size = 0 then none else some q.offset
  | _ => none
def agN (P : Program) (t : TypeId) : Option (Option Nat) := match P.underlying t with
  | some (.struct _) => (P.info? t).map fun i => some i.size
  | some (.array _ _) => (P.info? t).map fun i => some i.size
  | some _ => some none
  | none => none
theorem run_fieldAt {s f off : Nat} (h : fOff P s f = some off) (a : Addr) (w : World) : (Instr.fieldAt s (.pointer (some a)) f).run P w = .ok (.pointer (some (a.add off))) w := by
  unfold fOff at h
  split at h
  · rename_i fs hu
    cases hf : fs[f]? with
    | none => rw [hf] at h; cases h
    | some q =>
      rw [hf] at h
      simp only [Option.bind_some] at h
      cases hi : P.info? q.type with
      | none => rw [hi] at h; cases h
      | some i =>
        rw [hi] at h
        simp only [Option.bind_some] at h
        split at h
        · cases h
        rename_i h0
        injection h with h
        subst h
        simp [Instr.fieldAt, Sem.run_bind, run_underlying hu, hf, Instr.sureAddr, fieldPlace, sizeOf, typeInfo, hi, h0]
  cases h
theorem run_load1 {ty : TypeId} (h : agN P ty = some none) {a : Addr} {w : World} {v : Value} (hc : w.cell? a = some v) : (Instr.loadAt ty (.pointer (some a))).run P w = .ok v w := by
  unfold agN at h
  have hagg : (isAgg ty).run P w = .ok false w := by
    unfold isAgg
    rw [Sem.run_bind]
    cases hu : P.underlying ty with
    | none => rw [hu] at h; cases h
    | some d =>
      rw [run_underlying hu w]
      rw [hu] at h
      cases d <;> simp_all
  simp [Instr.loadAt, Instr.sureAddr, loadVar, Sem.run_bind, hagg, hc]
theorem run_loadN {ty n : Nat} (h : agN P ty = some (some n)) {b o : Nat} {w : World} {cs : List Value} (hl : cs.length = n) (hc : ∀ j v, cs[j]? = some v → w.cell? ⟨b, o + j, none⟩ = some v) : (Instr.loadAt ty (.pointer (some ⟨b, o, none⟩))).run P w = .ok (.agg cs.toArray) w := by
  unfold agN at h
  split at h
  · rename_i fs hu
    exact run_loadAt_mid w b o ty cs _ hc hu rfl (by cases hi : P.info? ty <;> simp_all)
  · rename_i m e hu
    exact run_loadAt_mid w b o ty cs _ hc hu rfl (by cases hi : P.info? ty <;> simp_all)
  · cases h
  cases h
theorem rd_faddr_bx {s f off k g off0 : Nat} {tc : TC} (ho : o.op = .fieldAddr s x f) (hT : fOff P s f = some off) (hx : evA t x = .bx k g off0) (hk : st[k]? = some ⟨g, tc⟩) (hb : ∃ ty cs, tc = .box ty cs) : ARd P o t st (.bx k g (off0 + off)) := fun F ρ w0 w a hs hm => by
  have h := hm.ev x
  rw [hx] at h
  obtain ⟨ty, cs, rfl⟩ := hb
  generalize hq : a.eval x = q at *
  cases h with
  | s h => cases h
  | bx _ _ _ ty' cs' hk' =>
    refine ⟨_, .bx k g _ ty' cs' hk', fun w' _ => ?_⟩; simp only [execOp, ho, hq, Sem.run_bind, run_fieldAt hT, Result.andThen_ok, Sem.run_pure, Addr.add_mid]
  | ob _ _ _ p hk' => rw [hk] at hk'; injection hk' with hk'; injection hk' with _ hk'; cases hk'
  | bo _ _ _ _ _ _ hk' => rw [hk] at hk'; injection hk' with hk'; injection hk' with _ hk'; cases hk'
  | bxd _ _ _ _ hst =>
    obtain ⟨tk, h1, h2⟩ := hst
    rw [hk] at h1
    injection h1 with h1
    subst h1
    rcases h2 with h2 | ⟨_, h2⟩
    · exact absurd h2 (Nat.lt_irrefl _)
    cases h2
theorem rd_faddr_ep {s f off off0 : Nat} {cs : List AV} (ho : o.op = .fieldAddr s x f) (hT : fOff P s f = some off) (hx : evA t x = .ep cs off0) : ARd P o t st (.ep cs (off0 + off)) := fun F ρ w0 w a hs hm => by
  have h := hm.ev x
  rw [hx] at h
  generalize hq : a.eval x = q at *
  cases h with
  | s h => cases h
  | ep b base _ _ V h0 hf hv h1 hr =>
    refine ⟨.pointer (some ⟨b, base + (off0 + off), none⟩), .ep b base (off0 + off) cs V h0 hf hv h1 hr, fun w' _ => ?_⟩; simp only [execOp, ho, hq, Sem.run_bind, run_fieldAt hT, Result.andThen_ok, Sem.run_pure, Addr.add_mid, Nat.add_assoc]
theorem Rep.bx_invB {F : Nat → Prop} {ρ : Loc} {w : World} {v : Value} {k g off : Nat} {c : TC} (h : Rep F ρ st w v (.bx k g off)) (hk : st[k]? = some ⟨g, c⟩) (hc : c.isB = true) : v = .pointer (some ⟨(ρ k).1, off, none⟩) := by
  cases h with
  | s h => cases h
  | bx => rfl
  | ob => rfl
  | bo => rfl
  | bxd _ _ _ _ hst =>
    obtain ⟨tk, h1, h2⟩ := hst
    rw [hk] at h1
    injection h1 with h1
    subst h1
    rcases h2 with h2 | ⟨_, h2⟩
    · exact absurd h2 (Nat.lt_irrefl _)
    simp only at h2; subst h2; cases hc
theorem Rep.bx_inv {F : Nat → Prop} {ρ : Loc} {w : World} {v : Value} {k g off : Nat} {ty : TypeId} {cs : List AV} (h : Rep F ρ st w v (.bx k g off)) (hk : st[k]? = some ⟨g, .box ty cs⟩) : v = .pointer (some ⟨(ρ k).1, off, none⟩) := by
  cases h with
  | s h => cases h
  | bx => rfl
  | ob => rfl
  | bo => rfl
  | bxd _ _ _ _ hst =>
    obtain ⟨tk, h1, h2⟩ := hst
    rw [hk] at h1
    injection h1 with h1
    subst h1
    rcases h2 with h2 | ⟨_, h2⟩
    · exact absurd h2 (Nat.lt_irrefl _)
    cases h2
theorem rd_load_bx {ty bt : TypeId} {k g off : Nat} {cs : List AV} (ho : o.op = .load ty x) (hT : agN P ty = some none) (hx : evA t x = .bx k g off) (hk : st[k]? = some ⟨g, .box bt cs⟩) (hc : cs[off]? = some z) : ARd P o t st z := fun F ρ w0 w a hs hm => by
  have h := hm.ev x
  rw [hx] at h
  have hv := h.bx_inv hk
  obtain ⟨vs, h1, h2, h3, h4⟩ := hs.box k g bt cs hk
  have hlt : off < vs.size := by rw [h2]; exact (List.getElem?_eq_some_iff.1 hc).1
  have hvo := Array.getElem?_eq_getElem hlt
  refine ⟨_, h4 off _ z hvo hc, fun w' hb => ?_⟩
  have hcell : w'.cell? ⟨(ρ k).1, off, none⟩ = some vs[off] := by
    rw [hb.cell (p := ⟨(ρ k).1, off, none⟩) (Array.getElem?_eq_some_iff.1 h1).1, cell_of_row _ _ _ _ _ _ h1, hvo]
  simp only [execOp, ho, hv, Sem.run_bind, run_load1 hT hcell, Result.andThen_ok, Sem.run_pure]
theorem rd_loadN_bx {ty bt : TypeId} {k g off n : Nat} {cs : List AV} (ho : o.op = .load ty x) (hT : agN P ty = some (some n)) (hx : evA t x = .bx k g off) (hk : st[k]? = some ⟨g, .box bt cs⟩) (hc : off + n ≤ cs.length) (hz : (cs.drop off).take n = zs) : ARd P o t st (.ag zs) := fun F ρ w0 w a hs hm => by
  have h := hm.ev x
  rw [hx] at h
  have hv := h.bx_inv hk
  obtain ⟨vs, h1, h2, h3, h4⟩ := hs.box k g bt cs hk
  refine ⟨.agg ((vs.toList.drop off).take n).toArray, .ag _ _ ?_ ?_ ?_, fun w' hb => ?_⟩
  · rw [← hz]; simp; omega
  · intro v hv
    have : v ∈ vs.toList := List.mem_of_mem_drop (List.mem_of_mem_take (by simpa using hv))
    exact h3 v (by simpa using this)
  · intro j v x hv hx; rw [← hz] at hx; simp only [List.getElem?_toArray, List.getElem?_take, List.getElem?_drop] at hv hx
    split at hv
    · rename_i hj
      rw [if_pos hj] at hx
      exact h4 (off + j) v x (by simpa using hv) hx
    cases hv
  have := run_loadN (P := P) hT (b := (ρ k).1) (o := off) (w := w') (cs := (vs.toList.drop off).take n) (by simp; omega) (fun j v hv => by
    rw [hb.cell (p := ⟨(ρ k).1, off + j, none⟩) (Array.getElem?_eq_some_iff.1 h1).1, cell_of_row _ _ _ _ _ _ h1]
    simp only [List.getElem?_take, List.getElem?_drop] at hv
    split at hv
    · simpa using hv
    cases hv)
  simp only [execOp, ho, hv, Sem.run_bind, this, Result.andThen_ok, Sem.run_pure]
theorem rd_load_ep {ty : TypeId} {off : Nat} {cs : List AV} (ho : o.op = .load ty x) (hT : agN P ty = some none) (hx : evA t x = .ep cs off) (hc : cs[off]? = some z) : ARd P o t st z := fun F ρ w0 w a hs hm => by
  have h := hm.ev x
  rw [hx] at h
  generalize hq : a.eval x = q at *
  cases h with
  | s h => cases h
  | ep b base _ _ V h0 hf hv h1 hr =>
    have hlt := (List.getElem?_eq_some_iff.1 hc).1
    refine ⟨V off, .s (hr off z hc), fun w' hb => ?_⟩
    have hcell : w'.cell? ⟨b, base + off, none⟩ = some (V off) := by
      rw [hb.cell (p := ⟨b, base + off, none⟩) (block_lt_of_cell (hv off hlt)), hv off hlt]
    simp only [execOp, ho, hq, Sem.run_bind, run_load1 hT hcell, Result.andThen_ok, Sem.run_pure]
theorem rd_loadN_ep {ty : TypeId} {off n : Nat} {cs : List AV} (ho : o.op = .load ty x) (hT : agN P ty = some (some n)) (hx : evA t x = .ep cs off) (hc : off + n ≤ cs.length) (hz : (cs.drop off).take n = zs) : ARd P o t st (.ag zs) := fun F ρ w0 w a hs hm => by
  have h := hm.ev x
  rw [hx] at h
  generalize hq : a.eval x = q at *
  cases h with
  | s h => cases h
  | ep b base _ _ V h0 hf hv h1 hr =>
    refine ⟨.agg ((List.range n).map fun j => V (off + j)).toArray, .s (.ag _ _ ?_ ?_ ?_), fun w' hb => ?_⟩
    · rw [← hz]; simp; omega
    · intro v hv; simp at hv; obtain ⟨j, _, rfl⟩ := hv; exact h1 _
    · intro j v x hv' hx'; rw [← hz] at hx'; simp only [List.getElem?_toArray, List.getElem?_map] at hv'; simp only [List.getElem?_take, List.getElem?_drop] at hx'
      split at hx'
      · rename_i hj
        rw [List.getElem?_range hj] at hv'
        simp at hv'
        subst hv'
        exact hr (off + j) x hx'
      cases hx'
    have := run_loadN (P := P) hT (b := b) (o := base + off) (w := w') (cs := (List.range n).map fun j => V (off + j)) (by simp) (fun j v hv' => by
      simp only [List.getElem?_map] at hv'
      have hj : j < n := by
        rcases Nat.lt_or_ge j n with h | h
        · exact h
        rw [List.getElem?_eq_none (by simpa using h)] at hv'; cases hv'
      rw [List.getElem?_range hj] at hv'
      simp at hv'
      subst hv'
      rw [Nat.add_assoc, hb.cell (p := ⟨b, base + (off + j), none⟩) (block_lt_of_cell (hv (off + j) (by omega))), hv (off + j) (by omega)])
    simp only [execOp, ho, hq, Sem.run_bind, this, Result.andThen_ok, Sem.run_pure]
end
section
variable {P : Program} {o : Oper} {t : List AV} {st : List TK} {x y c : Operand} {vx vy v : Value} {z z' : AV} {zs : List AV}
theorem RepS.sl_inv {F : Nat → Prop} {w : World} {v : Value} {xs : List (List AV)} (h : RepS F w v (.sl xs)) : ∃ A c, v = .slice A xs.length c ∧ xs.length ≤ c ∧ c ≤ maxLen := by
  cases h with
  | sl0 A c hc => exact ⟨A, c, rfl, Nat.zero_le _, hc⟩
  | sl1 b off n c sz V _ hn h0 hnc hc => exact ⟨_, c, by rw [hn], by omega, hc⟩
theorem Rep.sl_s {F : Nat → Prop} {ρ : Loc} {w : World} {v : Value} {xs : List (List AV)} (h : Rep F ρ st w v (.sl xs)) : RepS (Free F ρ st) w v (.sl xs) := by
  cases h with
  | s h => exact h
theorem Rep.ow_inv {F : Nat → Prop} {ρ : Loc} {w : World} {v : Value} {k g : Nat} {el : TypeId} {sz : Nat} {xs : List (List AV)} (h : Rep F ρ st w v (.ow k g)) (hk : st[k]? = some ⟨g, .own el sz xs⟩) : v = .slice (some ⟨(ρ k).1, 0, none⟩) xs.length (ρ k).2 := by
  cases h with
  | s h => cases h
  | ow _ _ el' sz' xs' hk' =>
    rw [hk] at hk'
    injection hk' with hk'
    injection hk' with _ hk'
    injection hk' with _ _ hk'
    rw [hk']
  | ow0 _ _ el' sz' hk' => rw [hk] at hk'; injection hk' with hk'; injection hk' with _ hk'; cases hk'
  | owd _ _ _ hst =>
    obtain ⟨tk, h1, h2⟩ := hst
    rw [hk] at h1
    injection h1 with h1
    subst h1
    rcases h2 with h2 | ⟨_, h2⟩
    · exact absurd h2 (Nat.lt_irrefl _)
    cases h2
theorem Rep.ow0_inv {F : Nat → Prop} {ρ : Loc} {w : World} {v : Value} {k g : Nat} {el : TypeId} {sz : Nat} (h : Rep F ρ st w v (.ow k g)) (hk : st[k]? = some ⟨g, .nown el sz⟩) : v = .slice none 0 0 := by
  cases h with
  | s h => cases h
  | ow _ _ el' sz' xs' hk' => rw [hk] at hk'; injection hk' with hk'; injection hk' with _ hk'; cases hk'
  | ow0 => rfl
  | owd _ _ _ hst =>
    obtain ⟨tk, h1, h2⟩ := hst
    rw [hk] at h1
    injection h1 with h1
    subst h1
    rcases h2 with h2 | ⟨_, h2⟩
    · exact absurd h2 (Nat.lt_irrefl _)
    cases h2
theorem rd_len_str {T : TypeId} {l : List UInt8} (ho : o.op = .call { callee := .builtin .len, args := #[x], argTypes := #[T] }) (hT : isStr P T = true) (hx : evV t x = some (sv l)) : ARd P o t st (.sc (.int .i64 l.length)) := fun F ρ w0 w a hs hm => ⟨_, .sc _, fun w' _ => by
  have hu : P.underlying T = some .string := by unfold isStr at hT; split at hT <;> simp_all
  have hsz : (⟨l.toArray⟩ : ByteArray).size = l.length := rfl
  simp only [execOp, ho, resolve, invoke, builtin, Builtin.len_, Sem.run_bind, Sem.run_pure, Result.andThen_ok, List.map_toArray, List.map_cons, List.map_nil, hm.val hx]
  simp only [List.getElem?_toArray, List.getElem?_cons_zero, Sem.run_bind, run_underlying hu, Result.andThen_ok, Sem.run_pure, goInt, hsz]⟩
theorem el_under {T e : TypeId} {n : Nat} (hT : elT P T = some (e, n)) : P.underlying T = some (.slice e) ∧ ∃ i, P.info? e = some i ∧ i.size = n := by
  unfold elT at hT
  split at hT
  · rename_i e' hu
    cases hi : P.info? e' with
    | none => rw [hi] at hT; cases hT
    | some i =>
      rw [hi] at hT
      simp at hT
      obtain ⟨rfl, rfl⟩ := hT
      exact ⟨hu, i, hi, rfl⟩
  cases hT
theorem rd_len_at {T e : TypeId} {n m : Nat} (ho : o.op = .call { callee := .builtin .len, args := #[x], argTypes := #[T] }) (hT : elT P T = some (e, n)) (h : ∀ F ρ w0 w a, St F ρ st w0 w → Fm F ρ st w a t → ∃ A c, a.eval x = .slice A m c) : ARd P o t st (.sc (.int .i64 m)) := fun F ρ w0 w a hs hm => ⟨_, .sc _, fun w' _ => by
  obtain ⟨A, c, h⟩ := h F ρ w0 w a hs hm
  simp only [execOp, ho, resolve, invoke, builtin, Builtin.len_, Sem.run_bind, Sem.run_pure, Result.andThen_ok, List.map_toArray, List.map_cons, List.map_nil, h]
  simp [run_underlying (el_under hT).1, goInt]⟩
theorem rd_len_sl {T e : TypeId} {n : Nat} {xs : List (List AV)} (ho : o.op = .call { callee := .builtin .len, args := #[x], argTypes := #[T] }) (hT : elT P T = some (e, n)) (hx : evA t x = .sl xs) : ARd P o t st (.sc (.int .i64 xs.length)) :=
  rd_len_at ho hT fun F ρ w0 w a hs hm => by
    have h := hm.ev x
    rw [hx] at h
    obtain ⟨A, c, h, _⟩ := h.sl_s.sl_inv
    exact ⟨A, c, h⟩
theorem rd_len_ow {T e el : TypeId} {n k g sz : Nat} {xs : List (List AV)} (ho : o.op = .call { callee := .builtin .len, args := #[x], argTypes := #[T] }) (hT : elT P T = some (e, n)) (hx : evA t x = .ow k g) (hk : st[k]? = some ⟨g, .own el sz xs⟩) : ARd P o t st (.sc (.int .i64 xs.length)) :=
  rd_len_at ho hT fun F ρ w0 w a hs hm => by
    have h := hm.ev x
    rw [hx] at h
    exact ⟨_, _, h.ow_inv hk⟩
def bdA (t : List AV) (x : Option Operand) (d n : Nat) : Prop := match x with | none => n = d | some x => ∃ k i, evV t x = some (.int k i) ∧ i = (n : Int)
theorem rd_index_str {T : TypeId} {l : List UInt8} {k : IntKind} {i : Int} {n : Nat} {b : UInt8} (ho : o.op = .index T x y) (hT : isStr P T = true) (hx : evV t x = some (sv l)) (hy : evV t y = some (.int k i)) (hi : i = (n : Int)) (hn : l[n]? = some b) : ARd P o t st (.sc (.int .u8 (b.toNat : Nat))) := fun F ρ w0 w a hs hm => ⟨_, .sc _, fun w' _ => by
  have hu : P.underlying T = some .string := by unfold isStr at hT; split at hT <;> simp_all
  subst hi
  have hb : (⟨l.toArray⟩ : ByteArray)[n]? = some b := by
    have hlt := (List.getElem?_eq_some_iff.1 hn).1
    have h0 : n < (⟨l.toArray⟩ : ByteArray).size := by simpa [ByteArray.size] using hlt
    rw [getElem?_pos (⟨l.toArray⟩ : ByteArray) n h0]
    congr 1
    have := (List.getElem?_eq_some_iff.1 hn).2
    rw [← this]
    rfl
  simp only [execOp, ho, Instr.index, hm.val hx, hm.val hy, Sem.run_bind, asIntOf, Sem.run_pure, Result.andThen_ok, run_underlying hu]
  simp [hb]⟩
theorem rd_iaddr_sl {T e : TypeId} {k : IntKind} {i : Int} {n sz : Nat} {xs : List (List AV)} {cs : List AV} (ho : o.op = .indexAddr T x y) (hT : elT P T = some (e, sz)) (hx : evA t x = .sl xs) (hy : evV t y = some (.int k i)) (hi : i = (n : Int)) (hc : xs[n]? = some cs) (hl : cs.length = sz) : ARd P o t st (.ep cs 0) := fun F ρ w0 w a hs hm => by
  subst hi
  have h := hm.ev x
  rw [hx] at h
  have h := h.sl_s
  obtain ⟨hu, inf, hi1, hi2⟩ := el_under hT
  have hlt := (List.getElem?_eq_some_iff.1 hc).1
  generalize hq : a.eval x = q at *
  cases h with
  | sl0 A c hcm => simp at hlt
  | sl1 b off m c sz' V _ hn h0 hnc hcm hsz hf hl' hv h1 hr =>
    have hs' : sz' = sz := by rw [← hl' n cs hc, hl]
    subst hs'
    refine ⟨.pointer (some ⟨b, off + n * sz' + 0, none⟩), .ep b (off + n * sz') 0 cs (fun j => V n j) (by omega) hf (fun j hj => ?_) (fun j => h1 n j) (fun j x hx => hr n j cs x hc hx), fun w' _ => ?_⟩
    · rw [Nat.add_assoc]
      exact hv n j (by omega) (by omega)
    have hnm : (n : Int) < m := by omega
    simp only [execOp, ho, Instr.indexAt, hq, hm.val hy, Sem.run_bind, asIntOf, Sem.run_pure, Result.andThen_ok, run_underlying hu]
    simp [hnm, sizeOf, typeInfo, hi1, hi2, Addr.add_mid]
theorem rd_slice_sl {T e : TypeId} {xs : List (List AV)} {lo hi : Option Operand} {m n sz : Nat} (ho : o.op = .slice T x lo hi none) (hT : elT P T = some (e, sz)) (hx : evA t x = .sl xs) (hz : ∀ cs ∈ xs, cs.length = sz) (hlo : bdA t lo 0 m) (hhi : bdA t hi xs.length n) (h1 : m ≤ n) (h2 : n ≤ xs.length) : ARd P o t st (.sl ((xs.take n).drop m)) := fun F ρ w0 w a hs hm => by
  have h := hm.ev x
  rw [hx] at h
  have h := h.sl_s
  obtain ⟨hu, inf, hi1, hi2⟩ := el_under hT
  obtain ⟨A, c, hv, hnc, hcm⟩ := h.sl_inv
  have key : ∀ w', (Instr.sliceBounds true xs.length c (lo.map a.eval) (hi.map a.eval) none).run P w' = .ok (m, n, c) w' := fun w' => by
    unfold Instr.sliceBounds
    simp only [Sem.run_bind, Sem.run_pure, Result.andThen_ok]
    cases hi with
    | none =>
      simp [bdA] at hhi
      subst hhi
      cases lo with
      | none => simp [bdA] at hlo; subst hlo; simp
      | some q =>
        obtain ⟨k, i, hq, rfl⟩ := hlo
        simp [hm.val hq, Instr.sliceBound, asIntOf, Sem.run_bind]
        omega
    | some p =>
      obtain ⟨k', i', hp, rfl⟩ := hhi
      cases lo with
      | none =>
        simp [bdA] at hlo
        subst hlo
        simp [hm.val hp, Instr.sliceBound, asIntOf, Sem.run_bind, show ((n : Int) ≤ c) by omega]
      | some q =>
        obtain ⟨k, i, hq, rfl⟩ := hlo
        simp [hm.val hp, hm.val hq, Instr.sliceBound, asIntOf, Sem.run_bind, show ((n : Int) ≤ c) by omega]
        omega
  refine ⟨.slice (if c = m then A else A.map (·.add (m * sz))) (n - m) (c - m), ?_, fun w' _ => ?_⟩
  · have hlen : ((xs.take n).drop m).length = n - m := by simp; omega
    rcases Nat.eq_zero_or_pos (n - m) with h0 | h0
    · have he : (xs.take n).drop m = [] := List.eq_nil_of_length_eq_zero (by omega)
      rw [he, h0]
      exact .s (.sl0 _ _ (by omega))
    generalize hq : a.eval x = q at *
    cases h with
    | sl0 => simp at h2; omega
    | sl1 b off m' c' sz' V _ hn h0' hnc' hcm' hsz hf hl' hv' h1' hr =>
      injection hv with hv1 hv2 hv3
      subst hv1 hv3
      have hs' : sz' = sz := by
        have h3 : xs[0]? = some (xs[0]'(by omega)) := List.getElem?_eq_getElem (by omega)
        rw [← hl' 0 _ h3, hz _ (List.getElem_mem _)]
      subst hs'
      rw [if_neg (by omega)]
      simp only [Option.map_some, Addr.add_mid]
      refine .s (.sl1 b (off + m * sz') (n - m) (c' - m) sz' (fun i j => V (m + i) j) _ hlen h0 (by omega) (by omega) hsz hf ?_ ?_ (fun i j => h1' _ _) ?_)
      · intro i cs hcs; rw [List.getElem?_drop, List.getElem?_take] at hcs
        split at hcs
        · exact hl' _ cs hcs
        cases hcs
      · intro i j hi hj
        have := hv' (m + i) j (by omega) hj
        rw [← this]
        congr 2
        rw [Nat.add_mul]
        omega
      intro i j cs x hcs hx; rw [List.getElem?_drop, List.getElem?_take] at hcs
      split at hcs
      · exact hr _ j cs x hcs hx
      cases hcs
  simp only [execOp, ho, Instr.sliceAt, Instr.slice, hv, Sem.run_bind, run_underlying hu, Result.andThen_ok, Option.map_none]
  simp [key w', Sem.run_bind, sizeOf, typeInfo, hi1, hi2]
theorem rd_conv_int {src dst : TypeId} {k k' : IntKind} {n m : Int} (ho : o.op = .convert src dst x) (hs : (P.underlying src).isSome = true) (hT : intK P dst = some k) (hx : evV t x = some (.int k' n)) (hw : k.wrap n = m) : ARd P o t st (.sc (.int k m)) := fun F ρ w0 w a hs' hm => ⟨_, .sc _, fun w' _ => by
  have hu : P.underlying dst = some (.int k) := by unfold intK at hT; split at hT <;> simp_all
  obtain ⟨d, hd⟩ := Option.isSome_iff_exists.1 hs
  subst hw
  simp only [execOp, ho, convert, hm.val hx, Sem.run_bind, run_underlying hu, run_underlying hd, Result.andThen_ok, Conv.intToInt, Sem.run_pure]⟩
def AV.cells? : AV → Option (List AV)
  | .sc (.agg vs) => if vs.all (·.oneCell') then some (vs.toList.map .sc) else none
  | .sc (.tuple _) => none
  | .sc v => some [.sc v]
  | .ag cs => some cs
  | .sl xs => some [.sl xs]
  | .ow k g => some [.ow k g]
  | .bx k g o => some [.bx k g o]
  | _ => none
theorem Rep.cells {F : Nat → Prop} {ρ : Loc} {w : World} (h : Rep F ρ st w v z) (hz : z.cells? = some zs) (ho : ∀ k g, z = .ow k g → ∃ c, st[k]? = some ⟨g, c⟩ ∧ c ≠ .off) (hb : ∀ k g o, z = .bx k g o → ∃ c, st[k]? = some ⟨g, c⟩ ∧ c ≠ .off) :
    v.cells.size = zs.length ∧ (∀ u ∈ v.cells, u.oneCell' = true) ∧ ∀ (j : Nat) u x, v.cells[j]? = some u → zs[j]? = some x → Rep F ρ st w u x := by
  have one : ∀ u : Value, u.cells = #[u] → u.oneCell' = true → ∀ y : AV, Rep F ρ st w u y → zs = [y] → u.cells.size = zs.length ∧ (∀ u' ∈ u.cells, u'.oneCell' = true) ∧ ∀ (j : Nat) u' x, u.cells[j]? = some u' → zs[j]? = some x → Rep F ρ st w u' x := by
    intro u hu h1 y hy hzs; subst hzs; rw [hu]; refine ⟨rfl, by simpa using h1, fun j u' x hu' hx => ?_⟩
    cases j with
    | zero => simp at hu' hx; subst hu' hx; exact hy
    | succ j => simp at hx
  cases z with
  | sc u =>
    obtain rfl := h.of_sc
    cases v with
    | agg vs =>
      simp [AV.cells?] at hz
      obtain ⟨h1, rfl⟩ := hz
      refine ⟨by simp [Value.cells], fun u hu => ?_, fun j u x hu hx => ?_⟩
      · obtain ⟨i, hi, rfl⟩ := Array.mem_iff_getElem.1 (by simpa [Value.cells] using hu)
        exact h1 i hi
      simp [Value.cells] at hu hx
      rw [hu] at hx
      simp at hx
      subst hx
      exact .sc u
    | tuple vs => simp [AV.cells?] at hz
    | _ =>
      simp [AV.cells?] at hz
      exact one _ rfl rfl _ (.sc _) hz.symm
  | ag cs =>
    simp [AV.cells?] at hz
    subst hz
    cases h with
    | s h =>
      cases h with
      | ag vs _ hs h1 hr => exact ⟨hs, h1, fun j u x hu hx => .s (hr j u x hu hx)⟩
    | ag vs _ hs h1 hr => exact ⟨hs, h1, hr⟩
  | sl xs =>
    simp [AV.cells?] at hz
    obtain ⟨A, c, rfl, _⟩ := h.sl_s.sl_inv
    exact one _ rfl rfl _ h hz.symm
  | ow k g =>
    simp [AV.cells?] at hz
    obtain ⟨c, hk, hne⟩ := ho k g rfl
    cases h with
    | s h => cases h
    | ow _ _ el sz xs hk' => exact one _ rfl rfl _ (.ow k g el sz xs hk') hz.symm
    | ow0 _ _ el sz hk' => exact one _ rfl rfl _ (.ow0 k g el sz hk') hz.symm
    | owd _ _ _ hst =>
      obtain ⟨tk, h1, h2⟩ := hst
      rw [hk] at h1
      injection h1 with h1
      subst h1
      rcases h2 with h2 | ⟨_, h2⟩
      · exact absurd h2 (Nat.lt_irrefl _)
      exact absurd h2 hne
  | bx k g o =>
    simp [AV.cells?] at hz
    obtain ⟨c, hk, hne⟩ := hb k g o rfl
    cases h with
    | s h => cases h
    | bx _ _ _ ty cs hk' => exact one _ rfl rfl _ (.bx k g o ty cs hk') hz.symm
    | ob _ _ _ p hk' => exact one _ rfl rfl _ (.ob k g o p hk') hz.symm
    | bo _ _ _ el sz xs hk' => exact one _ rfl rfl _ (.bo k g o el sz xs hk') hz.symm
    | bxd _ _ _ _ hst =>
      obtain ⟨tk, h1, h2⟩ := hst
      rw [hk] at h1
      injection h1 with h1
      subst h1
      rcases h2 with h2 | ⟨_, h2⟩
      · exact absurd h2 (Nat.lt_irrefl _)
      exact absurd h2 hne
  | _ => simp [AV.cells?] at hz
def TC.isO : TC → Bool
  | .own _ _ _ => true
  | .nown _ _ => true
  | _ => false
def liveA (st : List TK) : AV → Bool
  | .ow k g => match st[k]? with | some tk => tk.g == g && tk.c.isO | none => false
  | .bx k g _ => match st[k]? with | some tk => tk.g == g && tk.c.isB | none => false
  | _ => true
theorem live_tk {k g : Nat} {p : TC → Bool} (h : (match st[k]? with | some tk => tk.g == g && p tk.c | none => false) = true) : ∃ c, st[k]? = some ⟨g, c⟩ ∧ p c = true := by
  cases hk : st[k]? with
  | none => rw [hk] at h; cases h
  | some tk =>
    obtain ⟨g', c⟩ := tk
    rw [hk] at h
    simp at h
    obtain ⟨rfl, h2⟩ := h
    exact ⟨c, rfl, h2⟩
theorem live_ow {k g : Nat} (h : liveA st (.ow k g) = true) : ∃ c, st[k]? = some ⟨g, c⟩ ∧ c ≠ .off := by
  obtain ⟨c, h1, h2⟩ := live_tk (p := TC.isO) h
  exact ⟨c, h1, fun e => by subst e; cases h2⟩
theorem live_bx {k g o : Nat} (h : liveA st (.bx k g o) = true) : ∃ c, st[k]? = some ⟨g, c⟩ ∧ c ≠ .off := by
  obtain ⟨c, h1, h2⟩ := live_tk (p := TC.isB) h
  exact ⟨c, h1, fun e => by subst e; cases h2⟩
theorem St.free_new {F : Nat → Prop} {ρ : Loc} {w0 : Bs} {w : World} (hs : St F ρ st w0 w) {b : Nat} (hb : w.heap.size ≤ b) : Free F ρ st b :=
  ⟨hs.fresh b hb, fun k tk hk hf => by have := (hs.ge k tk b hk hf).2; omega⟩
theorem St.adopt {F : Nat → Prop} {ρ : Loc} {w0 : Bs} {w w' : World} {k g : Nat} {tk : TK} (hs : St F ρ st w0 w) (hb : Below w.heap.size w w') (hg : w.heap.size ≤ g) (hg' : g < w'.heap.size) (hk : st[k]? = some tk) (tc : TC) (cap : Nat)
    (hbox : ∀ ty cs, tc = .box ty cs → ∃ vs : Array Value, w'.heap[g]? = some (.cells vs ty (0, 0)) ∧ vs.size = cs.length ∧ (∀ v ∈ vs, v.oneCell' = true) ∧ ∀ (j : Nat) v x, vs[j]? = some v → cs[j]? = some x → Rep F ρ st w v x)
    (hown : ∀ el sz xs, tc = .own el sz xs → ∃ us : List Value, w'.ownsRow 0 el sz (.slice (some ⟨g, 0, none⟩) xs.length cap) xs.length us ∧ 0 < sz ∧ (∀ v ∈ us, v.oneCell' = true) ∧ (∀ (i : Nat) (cs : List AV), xs[i]? = some cs → cs.length = sz) ∧
      ∀ (i j : Nat) (cs : List AV) v x, xs[i]? = some cs → cs[j]? = some x → us[i * sz + j]? = some v → RepS (fun b => Free F ρ st b ∧ b ≠ g) w' v x) (hno : ∀ p, tc ≠ .obj p := by intro p e; cases e) :
    ∃ ρ' : Loc, ρ' k = (g, cap) ∧ St F ρ' (st.set k ⟨tk.g + 1, tc⟩) w0 w' ∧ Mv F ρ st w ρ' (st.set k ⟨tk.g + 1, tc⟩) w' ∧ ∀ b, Free F ρ st b → b ≠ g → Free F ρ' (st.set k ⟨tk.g + 1, tc⟩) b := by
  have hklt := (List.getElem?_eq_some_iff.1 hk).1
  let ρ' : Loc := fun j => if j = k then (g, cap) else ρ j
  have hρk : ρ' k = (g, cap) := by simp [ρ']
  have hρj : ∀ j, j ≠ k → ρ' j = ρ j := fun j hj => by simp [ρ', hj]
  have hfk : ∀ b, foot ρ' k tc b → g = b := fun b hf => by
    cases tc with
    | box ty cs => have : (ρ' k).1 = b := hf; rw [hρk] at this; exact this
    | own el sz xs => have : (ρ' k).1 = b := hf; rw [hρk] at this; exact this
    | obj p => exact (hno p rfl).elim
    | _ => exact hf.elim
  have hfr : ∀ b, Free F ρ st b → b ≠ g → Free F ρ' (st.set k ⟨tk.g + 1, tc⟩) b := fun b hf hne => ⟨hf.1, fun j q hq hqo => by
    rcases get_set hklt hq with ⟨rfl, rfl⟩ | ⟨hj, hq'⟩
    · exact hne (hfk b hqo).symm
    exact hf.2 j q hq' ((foot_loc (hρj j hj)).1 hqo)⟩
  have hmv : Mv F ρ st w ρ' (st.set k ⟨tk.g + 1, tc⟩) w' := Mv.upd hk hρj (fun b o hf ho => by
    have hblt := (Array.getElem?_eq_some_iff.1 ho).1
    exact ⟨fun h => by have := hfk b h; omega, (hb.block b hblt).trans ho⟩) (.inr (.inl (Nat.lt_succ_self _)))
  refine ⟨ρ', hρk, ?_, hmv, hfr⟩; refine hs.upd hk hρj (hs.below.grow hb) hb.size hmv (fun j q b hj hq hf => hb.block b (hs.ge j q b hq hf).2) (fun b hf => ?_) (fun j q b hj hq hf hf' => ?_) (fun ty cs e => ?_) (fun el sz xs e => ?_) (fun p e => (hno p e).elim)
  · obtain rfl := hfk b hf
    exact ⟨⟨.inl (Nat.le_trans hs.below.size hg), hs.fresh g hg⟩, hg'⟩
  · obtain rfl := hfk b hf'
    have := (hs.ge j q g hq hf).2; omega
  · obtain ⟨vs, h1, h2, h3, h4⟩ := hbox ty cs e
    exact ⟨vs, by rw [hρk]; exact h1, h2, h3, fun j v x hv hx => (h4 j v x hv hx).mv hmv⟩
  obtain ⟨us, h1, h2, h3, h4, h5⟩ := hown el sz xs e
  rw [hρk]
  exact ⟨us, h1, h2, h3, h4, fun i j cs v x a b c => (h5 i j cs v x a b c).mono fun b _ hb => hfr b hb.1 hb.2⟩
theorem op_box {K : AV → List TK → Prop} {ty : TypeId} (k : Nat) {tk : TK} (ho : o.op = .box ty x) (hx : evA t x = z) (hz : z.cells? = some zs) (hl : liveA st z = true) (hk : st[k]? = some tk) (h : K (.bx k (tk.g + 1) 0) (st.set k ⟨tk.g + 1, .box ty zs⟩)) : AOpB P o t st K := fun F ρ w0 w a hs hm next Q hn => by
  have hr := hm.ev x
  rw [hx] at hr
  obtain ⟨h1, h2, h3⟩ := hr.cells hz (fun k g e => live_ow (by rw [← e]; exact hl)) (fun k g o e => live_bx (by rw [← e]; exact hl))
  obtain ⟨ρ', hρ, hs', hmv, _⟩ := hs.adopt (w' := w.alloc (.cells (a.eval x).cells ty)) ((Below.refl _ _).alloc (Nat.le_refl _) _) (Nat.le_refl _) (by simp) hk (.box ty zs) 0 (fun ty' cs e => by injection e with e1 e2; subst e1 e2; exact ⟨_, heap_alloc_new w _, h1, h2, h3⟩) (fun _ _ _ e => by cases e)
  have hrun : (execOp a.eval o).run P w = .ok (.value (.pointer (some ⟨w.heap.size, 0, none⟩))) (w.alloc (.cells (a.eval x).cells ty)) := by
    simp only [execOp, ho, Instr.box, newVar, newRow, newObj]
    rfl
  unfold Oper.wp
  rw [hrun]
  have hk2 : (st.set k ⟨tk.g + 1, .box ty zs⟩)[k]? = some ⟨tk.g + 1, .box ty zs⟩ := by rw [List.getElem?_set_self (List.getElem?_eq_some_iff.1 hk).1]
  have hrep := Rep.bx (F := F) (ρ := ρ') (w := w.alloc (.cells (a.eval x).cells ty)) k (tk.g + 1) 0 ty zs hk2
  rw [hρ] at hrep
  exact hn _ _ ρ' _ _ hs' hmv hrep ((Below.refl _ _).alloc (Nat.le_refl _) _) h
end
def splV : Array Value → Nat → List Value → Array Value
  | vs, _, [] => vs
  | vs, o, u :: us => splV (vs.setIfInBounds o u) (o + 1) us
def splA : List AV → Nat → List AV → List AV
  | cs, _, [] => cs
  | cs, o, z :: zs => splA (cs.set o z) (o + 1) zs
theorem splA_len : ∀ (zs cs : List AV) (o : Nat), (splA cs o zs).length = cs.length
  | [], _, _ => rfl
  | z :: zs, cs, o => by simp [splA, splA_len zs]
theorem splV_size : ∀ (us : List Value) (vs : Array Value) (o : Nat), (splV vs o us).size = vs.size
  | [], _, _ => rfl
  | u :: us, vs, o => by simp [splV, splV_size us]
theorem spl_rel {R : Value → AV → Prop} : ∀ (us : List Value) (zs cs : List AV) (vs : Array Value) (o : Nat), us.length = zs.length → vs.size = cs.length → (∀ (j : Nat) v x, vs[j]? = some v → cs[j]? = some x → R v x) → (∀ (j : Nat) v x, us[j]? = some v → zs[j]? = some x → R v x) →
    ∀ (j : Nat) v x, (splV vs o us)[j]? = some v → (splA cs o zs)[j]? = some x → R v x
  | [], [], cs, vs, o, _, _, h, _ => h
  | u :: us, z :: zs, cs, vs, o, hl, hs, h, h' => by
    refine spl_rel us zs (cs.set o z) (vs.setIfInBounds o u) (o + 1) (by simpa using hl) (by simpa using hs) (fun j v x hv hx => ?_) fun j v x hv hx => h' (j + 1) v x (by simpa using hv) (by simpa using hx); simp only [Array.getElem?_setIfInBounds, List.getElem?_set] at hv hx
    by_cases e : o = j
    · rw [if_pos e] at hv hx
      split at hv
      · rw [if_pos (by rw [← hs]; assumption)] at hx
        injection hv with hv
        injection hx with hx
        subst hv hx
        exact h' 0 u z rfl rfl
      cases hv
    rw [if_neg e] at hv hx
    exact h j v x hv hx
  | [], _ :: _, _, _, _, hl, _, _, _ => by simp at hl
  | _ :: _, [], _, _, _, hl, _, _, _ => by simp at hl
theorem splV_one : ∀ (us : List Value) (vs : Array Value) (o : Nat), (∀ v ∈ vs, v.oneCell' = true) → (∀ v ∈ us, v.oneCell' = true) → ∀ v ∈ splV vs o us, v.oneCell' = true
  | [], _, _, h, _ => h
  | u :: us, vs, o, h, h' => by
    refine splV_one us _ (o + 1) (fun v hv => ?_) fun v hv => h' v (List.mem_cons_of_mem _ hv)
    rcases Array.mem_or_eq_of_mem_setIfInBounds hv with hv | hv
    · exact h v hv
    subst hv; exact h' v List.mem_cons_self
theorem heap_setCells_same {b : Nat} {ty : TypeId} : ∀ (us : List Value) (o : Nat) (w : World) (vs : Array Value), w.heap[b]? = some (.cells vs ty (0, 0)) → (w.setCells b o us).heap[b]? = some (.cells (splV vs o us) ty (0, 0))
  | [], _, _, _, h => h
  | u :: us, o, w, vs, h => by
    refine heap_setCells_same us (o + 1) _ (vs.setIfInBounds o u) ?_; simp [World.setCell, Array.getElem?_modify, h]
theorem heap_setCells_other {b b' : Nat} (hne : b' ≠ b) : ∀ (us : List Value) (o : Nat) (w : World), (w.setCells b o us).heap[b']? = w.heap[b']?
  | [], _, _ => rfl
  | u :: us, o, w => by rw [World.setCells, heap_setCells_other hne us, Below.heap_setCell _ _ _ _ hne]
theorem grown_setCells (b : Nat) : ∀ (us : List Value) (w : World) (off : Nat), w.grownBy (w.setCells b off us) (some b)
  | [], _, _ => World.grownBy.refl _ _
  | v :: r, w, off => World.grownBy.trans (b := w.setCell ⟨b, off, none⟩ v) ⟨rfl, rfl, rfl, (by show w.heap.size ≤ (w.heap.modify b _).size; rw [Array.size_modify]; exact Nat.le_refl _), fun k _ hk => Below.heap_setCell _ _ _ k (fun e => hk (by rw [e]))⟩ (grown_setCells b r _ _)
section
variable {P : Program} {o : Oper} {t : List AV} {st : List TK} {x y c : Operand} {vx vy v : Value} {z z' : AV} {zs : List AV}
theorem St.store {F : Nat → Prop} {ρ : Loc} {w0 : Bs} {w : World} {k g off : Nat} {bt : TypeId} {cs : List AV} {us : List Value} (hs : St F ρ st w0 w) (hk : st[k]? = some ⟨g, .box bt cs⟩) (hl : us.length = zs.length) (h1 : ∀ u ∈ us, u.oneCell' = true) (hr : ∀ (j : Nat) u x, us[j]? = some u → zs[j]? = some x → Rep F ρ st w u x) :
    St F ρ (st.set k ⟨g, .box bt (splA cs off zs)⟩) w0 (w.setCells (ρ k).1 off us) ∧ Mv F ρ st w ρ (st.set k ⟨g, .box bt (splA cs off zs)⟩) (w.setCells (ρ k).1 off us) := by
  have hklt := (List.getElem?_eq_some_iff.1 hk).1
  have hge := hs.geB k _ hk (by simp)
  have hmv : Mv F ρ st w ρ (st.set k ⟨g, .box bt (splA cs off zs)⟩) (w.setCells (ρ k).1 off us) := Mv.upd hk (fun _ _ => rfl) (fun b o hf ho => ⟨fun h => hf.2 k _ hk h, (heap_setCells_other (fun e => hf.2 k _ hk e.symm) us off w).trans ho⟩) (.inr (.inr (.inr ⟨rfl, rfl, rfl, rfl⟩)))
  refine ⟨hs.upd hk (fun _ _ => rfl) (hs.below.grown (grown_setCells _ us w off) (fun b e => by injection e with e; subst e; exact hge.1.1)) (grown_setCells _ us w off).size hmv (fun j q b hj hq hf => ?_) (fun b hf => ?_) (fun j q b hj hq hf hf' => ?_) (fun ty cs' e => ?_) (fun el sz xs e => by cases e) (fun p e => by cases e), hmv⟩
  · exact heap_setCells_other (fun e => hj (hs.inj j q k _ b hq hf hk e.symm)) us off w
  · have h2 := hs.ge k _ b hk hf
    exact ⟨h2.1, Nat.lt_of_lt_of_le h2.2 (grown_setCells _ us w off).size⟩
  · exact hj (hs.inj j q k _ b hq hf hk hf')
  injection e with e1 e2
  subst e1 e2
  obtain ⟨vs, g1, g2, g3, g4⟩ := hs.box k _ _ cs hk
  refine ⟨_, heap_setCells_same us off w vs g1, by rw [splV_size, splA_len, g2], splV_one us vs off g3 h1, ?_⟩; exact spl_rel us zs cs vs off hl g2 (fun j v x hv hx => (g4 j v x hv hx).mv hmv) (fun j v x hv hx => (hr j v x hv hx).mv hmv)
def szT (P : Program) (ty : TypeId) : Option Nat := (P.info? ty).map (·.size)
theorem op_store {K : AV → List TK → Prop} {ty bt : TypeId} {k g off : Nat} {cs : List AV} (ho : o.op = .store ty x y) (hx : evA t x = .bx k g off) (hk : st[k]? = some ⟨g, .box bt cs⟩) (hy : evA t y = z) (hz : z.cells? = some zs) (hl : liveA st z = true) (hT : szT P ty = some zs.length) (hle : off + zs.length ≤ cs.length)
    (h : K (.sc undef) (st.set k ⟨g, .box bt (splA cs off zs)⟩)) : AOp P o t st K := fun F ρ w0 w a hs hm next Q hn => by
  have hp := hm.ev x
  rw [hx] at hp
  have hv := hp.bx_inv hk
  have hr := hm.ev y
  rw [hy] at hr
  obtain ⟨h1, h2, h3⟩ := hr.cells hz (fun k g e => live_ow (by rw [← e]; exact hl)) (fun k g o e => live_bx (by rw [← e]; exact hl))
  obtain ⟨vs, g1, g2, g3, g4⟩ := hs.box k g bt cs hk
  obtain ⟨hs', hmv⟩ := hs.store (off := off) (zs := zs) (us := (a.eval y).cells.toList) hk (by simpa using h1) (fun u hu => h2 u (by simpa using hu)) (fun j u x hu hx => h3 j u x (by simpa using hu) hx)
  have hth : w.there (ρ k).1 off (a.eval y).cells.size := fun j hj => by
    have hlt : off + j < vs.size := by rw [g2]; omega
    refine ⟨?_, ?_⟩
    · rw [cell_of_row _ _ _ _ _ _ g1, Array.getElem?_eq_getElem hlt]; rfl
    simp [World.frozen?, g1]
  have hst : (storeVar ty ⟨(ρ k).1, off, none⟩ (a.eval y)).run P w = .ok () (w.setCells (ρ k).1 off (a.eval y).cells.toList) :=
    run_storeVar_mid w (ρ k).1 off ty (a.eval y).cells hth (by unfold szT at hT; rw [hT, h1]) (by rw [Array.all_eq_true_iff_forall_mem]; exact h2)
  have hrun : (execOp a.eval o).run P w = .ok .skip (w.setCells (ρ k).1 off (a.eval y).cells.toList) := by
    simp only [execOp, ho, hv, Instr.storeAt, Instr.sureAddr, Sem.run_bind, Sem.run_pure, Result.andThen_ok, hst]
  unfold Oper.wp
  rw [hrun]
  exact hn undef _ ρ _ _ hs' hmv (.sc _) h
def zeroC (P : Program) (ty : TypeId) : Option (List Value) := (P.info? ty).bind fun i => i.zero.bind fun z => if z.cells.all (·.oneCell') then some z.cells.toList else none
theorem op_alloc {K : AV → List TK → Prop} {ty : TypeId} {l : List Value} (k : Nat) {tk : TK} (ho : o.op = .alloc ty) (hT : zeroC P ty = some l) (hk : st[k]? = some tk) (h : K (.bx k (tk.g + 1) 0) (st.set k ⟨tk.g + 1, .box ty (l.map .sc)⟩)) : AOpB P o t st K := fun F ρ w0 w a hs hm next Q hn => by
  unfold zeroC at hT
  cases hi : P.info? ty with
  | none => rw [hi] at hT; cases hT
  | some i =>
    rw [hi] at hT
    cases hz : i.zero with
    | none => simp [hz] at hT
    | some zv =>
      simp [hz] at hT
      obtain ⟨hone, rfl⟩ := hT
      obtain ⟨ρ', hρ, hs', hmv, _⟩ := hs.adopt (w' := w.alloc (.cells zv.cells ty)) ((Below.refl _ _).alloc (Nat.le_refl _) _) (Nat.le_refl _) (by simp) hk (.box ty (zv.cells.toList.map .sc)) 0 (fun ty' cs e => by
          injection e with e1 e2
          subst e1 e2
          refine ⟨_, heap_alloc_new w _, by simp, fun u hu => ?_, fun j v x hv hx => ?_⟩
          · obtain ⟨i, hi, rfl⟩ := Array.mem_iff_getElem.1 hu
            exact hone i hi
          simp at hx
          rw [hv] at hx
          simp at hx
          subst hx
          exact .sc v) (fun _ _ _ e => by cases e)
      have hrun : (execOp a.eval o).run P w = .ok (.value (.pointer (some ⟨w.heap.size, 0, none⟩))) (w.alloc (.cells zv.cells ty)) := by
        simp only [execOp, ho, Instr.alloc, zeroValue, typeInfo, Sem.run_bind]
        simp [hi, hz, newVar, newRow]
      unfold Oper.wp
      rw [hrun]
      have hk2 : (st.set k ⟨tk.g + 1, .box ty (zv.cells.toList.map .sc)⟩)[k]? = some ⟨tk.g + 1, .box ty (zv.cells.toList.map .sc)⟩ := by rw [List.getElem?_set_self (List.getElem?_eq_some_iff.1 hk).1]
      have hrep := Rep.bx (F := F) (ρ := ρ') (w := w.alloc (.cells zv.cells ty)) k (tk.g + 1) 0 ty _ hk2
      rw [hρ] at hrep
      exact hn _ _ ρ' _ _ hs' hmv hrep ((Below.refl _ _).alloc (Nat.le_refl _) _) h
theorem own_form' {w : World} {base n c : Nat} {el : TypeId} {Ad : Option Addr} {vs : List Value} {size : Nat} (h : w.ownsRow base el size (.slice Ad n c) n vs) : n ≤ c ∧ c ≤ maxLen := by
  rcases h.2 with ⟨h1, _⟩ | ⟨g, cap, cur, h1, _, _, h2, h3, _⟩
  · injection h1 with _ h1 h2; subst h1 h2; exact ⟨Nat.le_refl _, Nat.zero_le _⟩
  injection h1 with _ _ h1; subst h1; exact ⟨h2, h3⟩
inductive RS where
  | s (y : AV)
  | o (el : TypeId) (sz : Nat) (xs : List (List AV))
  | ot (el : TypeId) (sz : Nat) (xs : List (List AV)) (rest : List AV)
def RepO (F : Nat → Prop) (base : Nat) (w : World) (g c : Nat) (el : TypeId) (sz : Nat) (xs : List (List AV)) : Prop :=
  ∃ us : List Value, w.ownsRow base el sz (.slice (some ⟨g, 0, none⟩) xs.length c) xs.length us ∧ 0 < sz ∧ (∀ v ∈ us, v.oneCell' = true) ∧ (∀ (i : Nat) (cs : List AV), xs[i]? = some cs → cs.length = sz) ∧
    ∀ (i j : Nat) (cs : List AV) v x, xs[i]? = some cs → cs[j]? = some x → us[i * sz + j]? = some v → RepS (fun b => F b ∧ b ≠ g) w v x
def RepR (F : Nat → Prop) (base : Nat) (w : World) (v : Value) : RS → Prop
  | .s y => RepS F w v y
  | .o el sz xs => ∃ g c, v = .slice (some ⟨g, 0, none⟩) xs.length c ∧ RepO F base w g c el sz xs
  | .ot el sz xs rest => ∃ g c vs, v = .tuple (#[.slice (some ⟨g, 0, none⟩) xs.length c] ++ vs) ∧ RepO F base w g c el sz xs ∧ vs.size = rest.length ∧ ∀ (j : Nat) v x, vs[j]? = some v → rest[j]? = some x → RepS (fun b => F b ∧ b ≠ g) w v x
def AC (P : Program) (f : FuncId) (args : List AV) (R : RS → Prop) : Prop := ∀ (F : Nat → Prop) (w : World) (vs : Array Value), vs.size = args.length → (∀ b, w.heap.size ≤ b → F b) → (∀ (j : Nat) v x, vs[j]? = some v → args[j]? = some x → RepS F w v x) →
  Calls P f vs w fun e w' => ∃ v r, e = .returned v ∧ RepR F w.heap.size w' v r ∧ Below w.heap.size w w' ∧ R r
theorem AC.mono {f : FuncId} {args : List AV} {R R' : RS → Prop} (h : AC P f args R) (hr : ∀ r, R r → R' r) : AC P f args R' := fun F w vs h1 h2 h3 => (h F w vs h1 h2 h3).mono fun _ _ ⟨v, r, a, b, c, d⟩ => ⟨v, r, a, b, c, hr r d⟩
def nz : AV → AV
  | .sc (.slice none 0 0) => .sl []
  | x => x
theorem RepS.nz {F : Nat → Prop} {w : World} {v : Value} {x : AV} (h : RepS F w v x) : RepS F w v (Go.Proofs.Ytlapcfnmmpbeeaa.nz x) := by
  unfold Go.Proofs.Ytlapcfnmmpbeeaa.nz
  split
  · cases h; exact .sl0 _ _ (Nat.zero_le _)
  exact h
theorem Rep.nz {F : Nat → Prop} {ρ : Loc} {w : World} {v : Value} {x : AV} (h : Rep F ρ st w v x) : Rep F ρ st w v (Go.Proofs.Ytlapcfnmmpbeeaa.nz x) := by
  unfold Go.Proofs.Ytlapcfnmmpbeeaa.nz
  split
  · cases h with | s h => exact .s h.nz
  exact h
def arg0 : AV → Option AV
  | .sc v => some (.sc v)
  | .sl xs => some (.sl xs)
  | _ => none
def arg1 (x : AV) : Option AV := arg0 (nz x)
def args1 : List AV → Option (List AV)
  | [] => some []
  | x :: xs => match arg1 x, args1 xs with | some y, some ys => some (y :: ys) | _, _ => none
def argA : AV → Option AV
  | .ag cs => match args1 cs with | some ys => some (.ag ys) | none => none
  | x => arg1 x
def argsA (t : List AV) : List Operand → Option (List AV)
  | [] => some []
  | x :: xs => match argA (evA t x), argsA t xs with | some y, some ys => some (y :: ys) | _, _ => none
theorem args1_get : ∀ (cs ys : List AV), args1 cs = some ys → cs.length = ys.length ∧ ∀ (j : Nat) x y, cs[j]? = some x → ys[j]? = some y → arg1 x = some y
  | [], ys, h => by simp [args1] at h; subst h; simp
  | x :: xs, ys, h => by
    simp only [args1] at h
    cases h1 : arg1 x with
    | none => rw [h1] at h; cases h
    | some y =>
      cases h2 : args1 xs with
      | none => rw [h1, h2] at h; cases h
      | some ys' =>
        rw [h1, h2] at h
        injection h with h
        subst h
        obtain ⟨h3, h4⟩ := args1_get xs ys' h2
        refine ⟨by simp [h3], fun j x' y' hx hy => ?_⟩
        cases j with
        | zero => simp at hx hy; subst hx hy; exact h1
        | succ j => exact h4 j x' y' (by simpa using hx) (by simpa using hy)
theorem arg0_rep {F : Nat → Prop} {ρ : Loc} {w : World} {y : AV} (h : Rep F ρ st w v z) (hz : arg0 z = some y) : RepS (Free F ρ st) w v y := by
  cases z with
  | sc u => simp [arg0] at hz; subst hz; cases h with | s h => exact h
  | sl xs => simp [arg0] at hz; subst hz; exact h.sl_s
  | _ => simp [arg0] at hz
theorem arg1_rep {F : Nat → Prop} {ρ : Loc} {w : World} {y : AV} (h : Rep F ρ st w v z) (hz : arg1 z = some y) : RepS (Free F ρ st) w v y := arg0_rep h.nz hz
theorem argA_rep {F : Nat → Prop} {ρ : Loc} {w : World} {y : AV} (h : Rep F ρ st w v z) (hz : argA z = some y) : RepS (Free F ρ st) w v y := by
  cases z with
  | ag cs =>
    simp only [argA] at hz
    cases h1 : args1 cs with
    | none => rw [h1] at hz; cases hz
    | some ys =>
      rw [h1] at hz
      injection hz with hz
      subst hz
      obtain ⟨h2, h3⟩ := args1_get cs ys h1
      have key : ∀ vs : Array Value, vs.size = cs.length → (∀ u ∈ vs, u.oneCell' = true) → (∀ (j : Nat) v x, vs[j]? = some v → cs[j]? = some x → Rep F ρ st w v x) → RepS (Free F ρ st) w (.agg vs) (.ag ys) := fun vs hsz h1 hr =>
        .ag vs ys (by omega) h1 fun j v y hv hy => by
          have hj : j < cs.length := by rw [h2]; exact (List.getElem?_eq_some_iff.1 hy).1
          exact arg1_rep (hr j v _ hv (List.getElem?_eq_getElem hj)) (h3 j _ y (List.getElem?_eq_getElem hj) hy)
      cases h with
      | s h => cases h with | ag vs _ hsz h1 hr => exact key vs hsz h1 fun j v x hv hx => .s (hr j v x hv hx)
      | ag vs _ hsz h1 hr => exact key vs hsz h1 hr
  | _ => exact arg1_rep h (by simpa [argA] using hz)
theorem argsA_rep {F : Nat → Prop} {ρ : Loc} {w : World} {a : Act} (hm : Fm F ρ st w a t) : ∀ (xs : List Operand) (ys : List AV), argsA t xs = some ys → (xs.map a.eval).length = ys.length ∧ ∀ (j : Nat) v y, (xs.map a.eval)[j]? = some v → ys[j]? = some y → RepS (Free F ρ st) w v y
  | [], ys, h => by simp [argsA] at h; subst h; simp
  | x :: xs, ys, h => by
    simp only [argsA] at h
    cases h1 : argA (evA t x) with
    | none => rw [h1] at h; cases h
    | some y =>
      cases h2 : argsA t xs with
      | none => rw [h1, h2] at h; cases h
      | some ys' =>
        rw [h1, h2] at h
        injection h with h
        subst h
        obtain ⟨h3, h4⟩ := argsA_rep hm xs ys' h2
        refine ⟨by simpa using h3, fun j v y' hv hy => ?_⟩
        cases j with
        | zero => simp at hv hy; subst hv hy; exact argA_rep (hm.ev x) h1
        | succ j => exact h4 j v y' (by simpa using hv) (by simpa using hy)
def KR (K : AV → List TK → Prop) (st : List TK) (kt : Option Nat) : RS → Prop
  | .s y => K y st
  | .o el sz xs => match kt with
    | none => K (.sl xs) st
    | some k => ∃ tk, st[k]? = some tk ∧ K (.ow k (tk.g + 1)) (st.set k ⟨tk.g + 1, .own el sz xs⟩)
  | .ot el sz xs rest => match kt with
    | none => K (.tu (.sl xs :: rest)) st
    | some k => ∃ tk, st[k]? = some tk ∧ K (.tu (.ow k (tk.g + 1) :: rest)) (st.set k ⟨tk.g + 1, .own el sz xs⟩)
theorem RepO.sl {F : Nat → Prop} {base : Nat} {w : World} {g c : Nat} {el : TypeId} {sz : Nat} {xs : List (List AV)} (h : RepO F base w g c el sz xs) (hF : F g) : RepS F w (.slice (some ⟨g, 0, none⟩) xs.length c) (.sl xs) := by
  obtain ⟨us, h1, h2, h3, h4, h5⟩ := h
  have hf := own_form' h1
  rcases Nat.eq_zero_or_pos xs.length with h0 | h0
  · have : xs = [] := List.eq_nil_of_length_eq_zero h0
    subst this
    exact .sl0 _ _ hf.2
  have hul : us.length = xs.length * sz := h1.1
  have hlt : ∀ i j, i < xs.length → j < sz → i * sz + j < us.length := fun i j hi hj => by
    rw [hul]
    calc i * sz + j < i * sz + sz := by omega
      _ = (i + 1) * sz := by rw [Nat.add_mul, Nat.one_mul]
      _ ≤ xs.length * sz := Nat.mul_le_mul_right _ hi
  refine .sl1 g 0 xs.length c sz (fun i j => if h : i * sz + j < us.length then us[i * sz + j] else .bool false) xs rfl h0 hf.1 hf.2 h2 hF h4 (fun i j hi hj => ?_) (fun i j => ?_) (fun i j cs x hi hj => ?_)
  · have hl := hlt i j hi hj
    rw [dif_pos hl, Nat.zero_add]
    have h6 := h1.cells (g := g) rfl (i * sz + j) _ (List.getElem?_eq_getElem hl)
    rw [← h6]
    congr 1
    unfold Addr.add
    split <;> simp_all
  · split
    · exact h3 _ (List.getElem_mem _)
    rfl
  have hi' := (List.getElem?_eq_some_iff.1 hi).1
  have hj' := (List.getElem?_eq_some_iff.1 hj).1
  rw [h4 i cs hi] at hj'
  have hl := hlt i j hi' hj'
  rw [dif_pos hl]
  exact (h5 i j cs _ x hi hj (List.getElem?_eq_getElem hl)).mono fun b _ hb => hb.1
def callOk (P : Program) (f : FuncId) : Bool := match P.funcs[f]? with | some fn => fn.name != "runtime.NumGoroutine" && fn.body.isSome | none => false
theorem run_call {f : FuncId} {xs : Array Operand} {Ts : Array TypeId} {a : Act} {w : World} (ho : o.op = .call { callee := .value (.func f), args := xs, argTypes := Ts }) (hok : callOk P f = true) : (execOp a.eval o).run P w = .ok (.enter f (xs.map a.eval)) w := by
  unfold callOk at hok
  cases hf : P.funcs[f]? with
  | none => rw [hf] at hok; cases hok
  | some fn =>
    rw [hf] at hok
    cases hb : fn.body with
    | none => simp [hb] at hok
    | some b =>
      simp [hb] at hok
      simp only [execOp, ho, resolve, Deferred.ofValue, Act.eval, Sem.run_bind, Sem.run_pure, Result.andThen_ok, invoke, callFunc]
      simp [hf, hok, hb]
theorem op_call {K : AV → List TK → Prop} {f : FuncId} {xs : Array Operand} {Ts : Array TypeId} {ys : List AV} {R : RS → Prop} (hC : AC P f ys R) (ho : o.op = .call { callee := .value (.func f), args := xs, argTypes := Ts }) (hok : callOk P f = true) (hargs : argsA t xs.toList = some ys) (kt : Option Nat) (h : ∀ r, R r → KR K st kt r) : AOpB P o t st K := fun F ρ w0 w a hs hm next Q hn => by
  unfold Oper.wp
  rw [run_call ho hok]
  obtain ⟨h1, h2⟩ := argsA_rep hm xs.toList ys hargs
  have hc := hC (Free F ρ st) w (xs.map a.eval) (by simpa using h1) (fun b hb => hs.free_new hb) (fun j v y hv hy => h2 j v y (by simpa using hv) hy)
  refine Calls.mono hc fun e w' ⟨v, r, he, hr, hb, hR⟩ => ?_; subst he
  have hq := h r hR
  have settle : ∀ {g c el sz xs}, RepO (Free F ρ st) w.heap.size w' g c el sz xs → RepS (Free F ρ st) w' (.slice (some ⟨g, 0, none⟩) xs.length c) (.sl xs) := fun h => h.sl (hs.free_new (by
    obtain ⟨us, h1, _⟩ := h
    exact (h1.lt _ rfl).1))
  have adopt : ∀ {g c el sz xs k tk}, RepO (Free F ρ st) w.heap.size w' g c el sz xs → st[k]? = some tk → ∃ ρ' : Loc, ρ' k = (g, c) ∧ St F ρ' (st.set k ⟨tk.g + 1, .own el sz xs⟩) w0 w' ∧ Mv F ρ st w ρ' (st.set k ⟨tk.g + 1, .own el sz xs⟩) w' ∧ ∀ b, Free F ρ st b → b ≠ g → Free F ρ' (st.set k ⟨tk.g + 1, .own el sz xs⟩) b := fun {g c el sz xs k tk} h hk => by
    obtain ⟨us, h1, h2, h3, h4, h5⟩ := h
    have hlt := h1.lt _ rfl
    refine hs.adopt hb hlt.1 hlt.2 hk (.own el sz xs) c (fun _ _ e => by cases e) fun el' sz' xs' e => ?_
    injection e with e1 e2 e3
    subst e1 e2 e3
    refine ⟨us, ⟨h1.1, ?_⟩, h2, h3, h4, h5⟩
    rcases h1.2 with ⟨a1, a2⟩ | ⟨g', cap, cur, a1, a2, a3⟩
    · exact .inl ⟨a1, a2⟩
    exact .inr ⟨g', cap, cur, a1, Nat.zero_le _, a3⟩
  cases r with
  | s y => exact hn v w' ρ st y (hs.grow hb) (Mv.below hb) (.s hr) hb hq
  | o el sz xs =>
    obtain ⟨g, c, rfl, hO⟩ := hr
    cases kt with
    | none => exact hn _ w' ρ st _ (hs.grow hb) (Mv.below hb) (.s (settle hO)) hb hq
    | some k =>
      obtain ⟨tk, hk, hq⟩ := hq
      obtain ⟨ρ', hρ, hs', hmv, _⟩ := adopt hO hk
      have hk2 : (st.set k ⟨tk.g + 1, .own el sz xs⟩)[k]? = some ⟨tk.g + 1, .own el sz xs⟩ := by rw [List.getElem?_set_self (List.getElem?_eq_some_iff.1 hk).1]
      have hrep := Rep.ow (F := F) (ρ := ρ') (w := w') k (tk.g + 1) el sz xs hk2
      rw [hρ] at hrep
      exact hn _ w' ρ' _ _ hs' hmv hrep hb hq
  | ot el sz xs rest =>
    obtain ⟨g, c, vs, rfl, hO, hl, hrest⟩ := hr
    cases kt with
    | none =>
      refine hn _ w' ρ st _ (hs.grow hb) (Mv.below hb) (.s (.tu _ _ (by simp [hl]; omega) fun j v x hv hx => ?_)) hb hq
      cases j with
      | zero =>
        rw [Array.getElem?_append_left (by simp)] at hv
        simp at hv hx
        subst hv hx
        exact settle hO
      | succ j =>
        rw [Array.getElem?_append_right (by simp)] at hv
        exact (hrest j v x (by simpa using hv) (by simpa using hx)).mono fun b _ hb => hb.1
    | some k =>
      obtain ⟨tk, hk, hq⟩ := hq
      obtain ⟨ρ', hρ, hs', hmv, hfr⟩ := adopt hO hk
      have hk2 : (st.set k ⟨tk.g + 1, .own el sz xs⟩)[k]? = some ⟨tk.g + 1, .own el sz xs⟩ := by rw [List.getElem?_set_self (List.getElem?_eq_some_iff.1 hk).1]
      have hrep := Rep.ow (F := F) (ρ := ρ') (w := w') k (tk.g + 1) el sz xs hk2
      rw [hρ] at hrep
      refine hn _ w' ρ' _ _ hs' hmv (.tu _ _ (by simp [hl]; omega) fun j v x hv hx => ?_) hb hq
      cases j with
      | zero =>
        rw [Array.getElem?_append_left (by simp)] at hv
        simp at hv hx
        subst hv hx
        exact hrep
      | succ j =>
        rw [Array.getElem?_append_right (by simp)] at hv
        exact .s ((hrest j v x (by simpa using hv) (by simpa using hx)).mono fun b _ hb => hfr b hb.1 hb.2)
end
def set0 (st : List TK) : AV → Option AV
  | .sc v => some (.sc v)
  | .sl xs => some (.sl xs)
  | .ow k g => match st[k]? with | some ⟨g', .own _ _ xs⟩ => if g' = g then some (.sl xs) else none | some ⟨g', .nown _ _⟩ => if g' = g then some (.sl []) else none | _ => none
  | _ => none
def set1 (st : List TK) (x : AV) : Option AV := set0 st (nz x)
def sets (st : List TK) : List AV → Option (List AV)
  | [] => some []
  | x :: xs => match set1 st x, sets st xs with | some y, some ys => some (y :: ys) | _, _ => none
def setA (st : List TK) : AV → Option AV
  | .ag cs => match sets st cs with | some ys => some (.ag ys) | none => none
  | x => set1 st x
section
variable {P : Program} {t : List AV} {st : List TK} {z y : AV} {v : Value} {F : Nat → Prop} {ρ : Loc} {w0 : Bs} {w : World} {a : Act}
theorem St.repO (hs : St F ρ st w0 w) {k g : Nat} {el : TypeId} {sz : Nat} {xs : List (List AV)} (hk : st[k]? = some ⟨g, .own el sz xs⟩) : RepO F 0 w (ρ k).1 (ρ k).2 el sz xs := by
  obtain ⟨vs, h1, h2, h3, h4, h5⟩ := hs.own k g el sz xs hk
  exact ⟨vs, h1, h2, h3, h4, fun i j cs v x a b c => (h5 i j cs v x a b c).mono fun b _ hb => ⟨hb.1, fun e => hb.ne k _ hk (by simp) e.symm⟩⟩
theorem own_base {w : World} {base g c n m : Nat} {el : TypeId} {sz : Nat} {vs : List Value} (h : w.ownsRow 0 el sz (.slice (some ⟨g, 0, none⟩) n c) m vs) (hb : base ≤ g) : w.ownsRow base el sz (.slice (some ⟨g, 0, none⟩) n c) m vs :=
  ⟨h.1, by
    rcases h.2 with ⟨h1, h2⟩ | ⟨g', cap, cur, h1, _, h3⟩
    · cases h1
    injection h1 with h4 h5 h6
    injection h4 with h4
    injection h4 with h4
    subst h4 h5 h6
    exact .inr ⟨_, _, cur, rfl, hb, h3⟩⟩
theorem St.repOb (hs : St F ρ st w0 w) (h0 : w0.os = []) {k g : Nat} {el : TypeId} {sz : Nat} {xs : List (List AV)} (hk : st[k]? = some ⟨g, .own el sz xs⟩) : RepO F w0.w.heap.size w (ρ k).1 (ρ k).2 el sz xs := by
  obtain ⟨vs, h1, h2⟩ := hs.repO hk
  refine ⟨vs, own_base h1 ?_, h2⟩
  rcases (hs.geB k _ hk (by simp)).1.1 with h | ⟨j, tk, hj, _⟩
  · exact h
  rw [h0] at hj; simp at hj
theorem set0_rep (hs : St F ρ st w0 w) (h : Rep F ρ st w v z) (hz : set0 st z = some y) : RepS F w v y := by
  cases z with
  | sc u => simp [set0] at hz; subst hz; cases h with | s h => exact h.mono fun b _ hb => hb.1
  | sl xs => simp [set0] at hz; subst hz; exact h.sl_s.mono fun b _ hb => hb.1
  | ow k g =>
    simp only [set0] at hz
    cases hk : st[k]? with
    | none => rw [hk] at hz; cases hz
    | some tk =>
      obtain ⟨g', c⟩ := tk
      rw [hk] at hz
      cases c with
      | own el sz xs =>
        simp at hz
        obtain ⟨rfl, rfl⟩ := hz
        rw [h.ow_inv hk]
        exact (hs.repO hk).sl (hs.geB k _ hk (by simp)).1.2
      | nown el sz =>
        simp at hz
        obtain ⟨rfl, rfl⟩ := hz
        rw [h.ow0_inv hk]
        exact .sl0 _ _ (Nat.zero_le _)
      | _ => simp at hz
  | _ => simp [set0] at hz
theorem set1_rep (hs : St F ρ st w0 w) (h : Rep F ρ st w v z) (hz : set1 st z = some y) : RepS F w v y := set0_rep hs h.nz hz
theorem sets_rep (hs : St F ρ st w0 w) : ∀ (cs ys : List AV), sets st cs = some ys → cs.length = ys.length ∧ ∀ (j : Nat) v x y, cs[j]? = some x → ys[j]? = some y → Rep F ρ st w v x → RepS F w v y
  | [], ys, h => by simp [sets] at h; subst h; simp
  | x :: xs, ys, h => by
    simp only [sets] at h
    cases h1 : set1 st x with
    | none => rw [h1] at h; cases h
    | some y =>
      cases h2 : sets st xs with
      | none => rw [h1, h2] at h; cases h
      | some ys' =>
        rw [h1, h2] at h
        injection h with h
        subst h
        obtain ⟨h3, h4⟩ := sets_rep hs xs ys' h2
        refine ⟨by simpa using h3, fun j v x' y' hx hy hr => ?_⟩
        cases j with
        | zero => simp at hx hy; subst hx hy; exact set1_rep hs hr h1
        | succ j => exact h4 j v x' y' (by simpa using hx) (by simpa using hy) hr
theorem setA_rep (hs : St F ρ st w0 w) (h : Rep F ρ st w v z) (hz : setA st z = some y) : RepS F w v y := by
  cases z with
  | ag cs =>
    simp only [setA] at hz
    cases h1 : sets st cs with
    | none => rw [h1] at hz; cases hz
    | some ys =>
      rw [h1] at hz
      injection hz with hz
      subst hz
      obtain ⟨h2, h3⟩ := sets_rep hs cs ys h1
      have key : ∀ vs : Array Value, vs.size = cs.length → (∀ u ∈ vs, u.oneCell' = true) → (∀ (j : Nat) v x, vs[j]? = some v → cs[j]? = some x → Rep F ρ st w v x) → RepS F w (.agg vs) (.ag ys) := fun vs hsz h1 hr =>
        .ag vs ys (by omega) h1 fun j v x hv hx => by
          have hj : j < cs.length := by rw [h2]; exact (List.getElem?_eq_some_iff.1 hx).1
          exact h3 j v cs[j] x (List.getElem?_eq_getElem hj) hx (hr j v _ hv (List.getElem?_eq_getElem hj))
      cases h with
      | s h => cases h with | ag vs _ hsz h1 hr => exact key vs hsz h1 fun j v x hv hx => .s (hr j v x hv hx)
      | ag vs _ hsz h1 hr => exact key vs hsz h1 hr
  | _ => exact set1_rep hs h (by simpa [setA] using hz)
inductive ResV (P : Program) (t : List AV) (st : List TK) : ResultVar → AV → Prop
  | tmp {i : Nat} {y : AV} (h : evA t (.tmp i) = y) : ResV P t st (.tmp i) y
  | cell {a T k g off bt : Nat} {cs : List AV} {z : AV} (h : evA t (.tmp a) = .bx k g off) (hk : st[k]? = some ⟨g, .box bt cs⟩) (hT : agN P T = some none) (hz : cs[off]? = some z) : ResV P t st (.cell a T) z
  | cells {a T k g off bt n : Nat} {cs zs : List AV} (h : evA t (.tmp a) = .bx k g off) (hk : st[k]? = some ⟨g, .box bt cs⟩) (hT : agN P T = some (some n)) (hn : off + n ≤ cs.length) (hz : (cs.drop off).take n = zs) : ResV P t st (.cell a T) (.ag zs)
def resRun (tmps : Array Value) : ResultVar → Sem Value
  | .tmp t => pure (tmps.getD t undef)
  | .cell a t => do loadVar t (← asAddr (tmps.getD a undef))
theorem ResV.run {rv : ResultVar} (h : ResV P t st rv y) (hs : St F ρ st w0 w) (hm : Fm F ρ st w a t) : ∃ v, (resRun a.tmps rv).run P w = .ok v w ∧ Rep F ρ st w v y := by
  cases h with
  | tmp h => exact ⟨_, rfl, h ▸ hm.ev (.tmp _)⟩
  | @cell a' T k g off bt cs z h hk hT hz =>
    obtain ⟨v, h1, h2⟩ := rd_load_bx (P := P) (o := ⟨none, .load T (.tmp a'), 0, "", #[], none⟩) rfl hT h hk hz F ρ w0 w a hs hm
    refine ⟨v, ?_, h1⟩
    have h3 := hm.ev (.tmp a')
    rw [h] at h3
    have h4 : a.tmps.getD a' undef = .pointer (some ⟨(ρ k).1, off, none⟩) := h3.bx_inv hk
    have h5 := h2 w (Below.refl _ _)
    simp only [execOp, Act.eval, h4, Sem.run_bind, Instr.loadAt, Instr.sureAddr, Sem.run_pure, Result.andThen_ok] at h5
    simp only [resRun, h4, asAddr, Sem.run_bind, Sem.run_pure, Result.andThen_ok]
    cases h6 : (loadVar T ⟨(ρ k).1, off, none⟩).run P w with
    | ok u w' => rw [h6] at h5; simp at h5; rw [h5.1, h5.2]
    | halt x w' => rw [h6] at h5; simp at h5
  | @cells a' T k g off bt n cs zs h hk hT hn hz =>
    obtain ⟨v, h1, h2⟩ := rd_loadN_bx (P := P) (o := ⟨none, .load T (.tmp a'), 0, "", #[], none⟩) rfl hT h hk hn hz F ρ w0 w a hs hm
    refine ⟨v, ?_, h1⟩
    have h3 := hm.ev (.tmp a')
    rw [h] at h3
    have h4 : a.tmps.getD a' undef = .pointer (some ⟨(ρ k).1, off, none⟩) := h3.bx_inv hk
    have h5 := h2 w (Below.refl _ _)
    simp only [execOp, Act.eval, h4, Sem.run_bind, Instr.loadAt, Instr.sureAddr, Sem.run_pure, Result.andThen_ok] at h5
    simp only [resRun, h4, asAddr, Sem.run_bind, Sem.run_pure, Result.andThen_ok]
    cases h6 : (loadVar T ⟨(ρ k).1, off, none⟩).run P w with
    | ok u w' => rw [h6] at h5; simp at h5; rw [h5.1, h5.2]
    | halt x w' => rw [h6] at h5; simp at h5
def ResA (P : Program) (fn : Func) (R : RS → Prop) (t : List AV) (st : List TK) : Prop := ∀ F ρ w0 w a, w0.os = [] → St F ρ st w0 w → Fm F ρ st w a t → ∃ v r, (results fn a.tmps).run P w = .ok v w ∧ RepR F w0.w.heap.size w v r ∧ R r
def retP (P : Program) (fn : Func) (R : RS → Prop) : APost
  | .ret, t, st => ResA P fn R t st
  | .normal, t, st => ResA P fn R t st
  | _, _, _ => False
variable {fn : Func} {R : RS → Prop}
theorem res_eq (fn : Func) (tmps : Array Value) : results fn tmps = (do let vs ← fn.results.mapM (resRun tmps); pure (if h : vs.size = 1 then vs[0] else .tuple vs)) := by
  unfold results
  congr 1
theorem res1 {r1 : ResultVar} (hr : fn.results = #[r1]) (h1 : ResV P t st r1 z) (hz : setA st z = some y) (h : R (.s y)) : ResA P fn R t st := fun F ρ w0 w a h0 hs hm => by
  obtain ⟨v, g1, g2⟩ := h1.run hs hm
  refine ⟨v, .s y, ?_, setA_rep hs g2 hz, h⟩; rw [res_eq, hr]; simp [Sem.run_bind, g1]
theorem res1o {r1 : ResultVar} {k g : Nat} {el : TypeId} {sz : Nat} {xs : List (List AV)} (hr : fn.results = #[r1]) (h1 : ResV P t st r1 (.ow k g)) (hk : st[k]? = some ⟨g, .own el sz xs⟩) (h : R (.o el sz xs)) : ResA P fn R t st := fun F ρ w0 w a h0 hs hm => by
  obtain ⟨v, g1, g2⟩ := h1.run hs hm
  refine ⟨v, .o el sz xs, ?_, ⟨_, _, g2.ow_inv hk, hs.repOb h0 hk⟩, h⟩; rw [res_eq, hr]; simp [Sem.run_bind, g1]
theorem res2 {r1 r2 : ResultVar} {z1 z2 y1 y2 : AV} (hr : fn.results = #[r1, r2]) (h1 : ResV P t st r1 z1) (hz1 : setA st z1 = some y1) (h2 : ResV P t st r2 z2) (hz2 : setA st z2 = some y2) (h : R (.s (.tu [y1, y2]))) : ResA P fn R t st := fun F ρ w0 w a h0 hs hm => by
  obtain ⟨v1, g1, q1⟩ := h1.run hs hm
  obtain ⟨v2, g2, q2⟩ := h2.run hs hm
  refine ⟨.tuple #[v1, v2], .s (.tu [y1, y2]), ?_, RepS.tu #[v1, v2] [y1, y2] rfl (fun j v x hv hx => ?_), h⟩
  · rw [res_eq, hr]
    simp [Sem.run_bind, g1, g2]
  match j with
  | 0 => simp at hv hx; subst hv hx; exact setA_rep hs q1 hz1
  | 1 => simp at hv hx; subst hv hx; exact setA_rep hs q2 hz2
  | j + 2 => simp at hx
theorem res3 {r1 r2 r3 : ResultVar} {z1 z2 z3 y1 y2 y3 : AV} (hr : fn.results = #[r1, r2, r3]) (h1 : ResV P t st r1 z1) (hz1 : setA st z1 = some y1) (h2 : ResV P t st r2 z2) (hz2 : setA st z2 = some y2) (h3 : ResV P t st r3 z3) (hz3 : setA st z3 = some y3) (h : R (.s (.tu [y1, y2, y3]))) : ResA P fn R t st := fun F ρ w0 w a h0 hs hm => by
  obtain ⟨v1, g1, q1⟩ := h1.run hs hm
  obtain ⟨v2, g2, q2⟩ := h2.run hs hm
  obtain ⟨v3, g3, q3⟩ := h3.run hs hm
  refine ⟨.tuple #[v1, v2, v3], .s (.tu [y1, y2, y3]), ?_, RepS.tu #[v1, v2, v3] [y1, y2, y3] rfl (fun j v x hv hx => ?_), h⟩
  · rw [res_eq, hr]
    simp [Sem.run_bind, g1, g2, g3]
  match j with
  | 0 => simp at hv hx; subst hv hx; exact setA_rep hs q1 hz1
  | 1 => simp at hv hx; subst hv hx; exact setA_rep hs q2 hz2
  | 2 => simp at hv hx; subst hv hx; exact setA_rep hs q3 hz3
  | j + 3 => simp at hx
theorem AC.of {f : FuncId} {c : Code} {args t0 : List AV} (nt : Nat) (hf : P.funcs[f]? = some fn) (hb : fn.body = some c) (ht : args ++ List.replicate (fn.ntmps - args.length) (AV.sc undef) = t0) (h : AW P c (retP P fn R) t0 (List.replicate nt (TK.mk 0 .off))) : AC P f args R := fun F w vs hsz hF hr => by
  subst ht
  refine calls_of_wp hf hb ?_
  have hoff : ∀ (k : Nat) (tk : TK), (List.replicate nt (TK.mk 0 .off))[k]? = some tk → tk = TK.mk 0 .off := fun k tk hk => List.eq_of_mem_replicate (List.mem_of_getElem? hk)
  have hs : St F (fun _ => (0, 0)) (List.replicate nt ⟨0, .off⟩) ⟨w, fun _ => (0, 0), []⟩ w := by
    refine ⟨Bel.refl ⟨w, fun _ => (0, 0), []⟩, hF, fun k g ty cs hk => ?_, fun k g el sz xs hk => ?_, fun k g p hk => ?_, fun k tk b hk hne => ?_, fun k tk k' tk' b hk hne => ?_, fun k tk0 h => by simp at h⟩
    · have := hoff k _ hk; injection this with _ this; cases this
    · have := hoff k _ hk; injection this with _ this; cases this
    · have := hoff k _ hk; injection this with _ this; cases this
    · rw [hoff k tk hk] at hne; exact False.elim hne
    rw [hoff k tk hk] at hne; exact False.elim hne
  have hm : Fm F (fun _ => (0, 0)) (List.replicate nt ⟨0, .off⟩) w { tmps := vs ++ Array.replicate (fn.ntmps - vs.size) undef, defers := [] } (args ++ List.replicate (fn.ntmps - args.length) (.sc undef)) := by
    refine ⟨rfl, by simp [hsz], fun i v x hv hx => ?_⟩; simp only [] at hv
    rcases Nat.lt_or_ge i vs.size with hi | hi
    · rw [Array.getElem?_append_left hi] at hv
      rw [List.getElem?_append_left (by omega)] at hx
      exact .s ((hr i v x hv hx).mono fun b _ hb => ⟨hb, fun k tk hk hne => by rw [hoff k tk hk] at hne; exact False.elim hne⟩)
    rw [Array.getElem?_append_right hi] at hv
    rw [List.getElem?_append_right (by omega)] at hx
    have h1 := List.eq_of_mem_replicate (List.mem_of_getElem? hx)
    have h2 : v = undef := by
      have := Array.mem_of_getElem? hv
      exact (Array.eq_of_mem_replicate this)
    subst h1 h2
    exact .sc _
  refine wp_mono (h F _ _ w _ hs hm) fun e a' w' ⟨ρ', t', st', h1, h2, h3⟩ => ?_
  cases e with
  | ret =>
    obtain ⟨v, r, g1, g2, g3⟩ := h3 F ρ' _ w' a' rfl h1 h2
    exact ⟨h2.defers, v, g1, v, r, rfl, g2, h1.below.below rfl, g3⟩
  | normal =>
    obtain ⟨v, r, g1, g2, g3⟩ := h3 F ρ' _ w' a' rfl h1 h2
    exact ⟨h2.defers, v, g1, v, r, rfl, g2, h1.below.below rfl, g3⟩
  | _ => exact h3.elim
inductive Wk : List AV → List AV → Prop
  | nil : Wk [] []
  | same {x : AV} {l m : List AV} (h : Wk l m) : Wk (x :: l) (x :: m)
  | any {x : AV} {l m : List AV} (h : Wk l m) : Wk (x :: l) (.any :: m)
theorem Wk.get {l m : List AV} (h : Wk l m) : l.length = m.length ∧ ∀ (i : Nat) x y, l[i]? = some x → m[i]? = some y → y = x ∨ y = .any := by
  induction h with
  | nil => simp
  | same h ih =>
    refine ⟨by simp [ih.1], fun i x y hx hy => ?_⟩
    cases i with
    | zero => simp at hx hy; subst hx hy; exact .inl rfl
    | succ i => exact ih.2 i x y (by simpa using hx) (by simpa using hy)
  | any h ih =>
    refine ⟨by simp [ih.1], fun i x y hx hy => ?_⟩
    cases i with
    | zero => simp at hx hy; subst hx hy; exact .inr rfl
    | succ i => exact ih.2 i x y (by simpa using hx) (by simpa using hy)
theorem Fm.wk {t' : List AV} (h : Fm F ρ st w a t) (hw : Wk t t') : Fm F ρ st w a t' := by
  obtain ⟨h1, h2⟩ := hw.get
  refine ⟨h.defers, h.size.trans h1, fun i v x hv hx => ?_⟩
  have hi : i < t.length := by rw [h1]; exact (List.getElem?_eq_some_iff.1 hx).1
  have hx' : t[i]? = some t[i] := List.getElem?_eq_getElem hi
  rcases h2 i _ x hx' hx with e | e
  · rw [e]; exact h.rep i v _ hv hx'
  rw [e]; exact .any v
theorem AW.wk {c : Code} {Q : APost} {t' : List AV} (hw : Wk t t') (h : AW P c Q t' st) : AW P c Q t st := fun F ρ w0 w a hs hm => h F ρ w0 w a hs (hm.wk hw)
end
section
variable {P : Program} {ops : Array Oper} {K : List AV → List TK → Prop} {l : List Oper} {t : List AV} {st : List TK} {Q : APost} {c : Code}
theorem Fm.setB {F : Nat → Prop} {ρ : Loc} {w : World} {a : Act} {d : Nat} {b : Bool} (hm : Fm F ρ st w a t) (hb : evA t (.tmp d) = .sc (.bool b)) : t.set d (.sc (.bool b)) = t := by
  apply List.ext_getElem?
  intro i; rw [List.getElem?_set]
  split
  · rename_i e
    subst e
    split
    · rename_i h
      simp only [evA, List.getD_eq_getElem?_getD, List.getElem?_eq_getElem h, Option.getD_some] at hb
      rw [List.getElem?_eq_getElem h, hb]
    rename_i h
    rw [List.getElem?_eq_none (by omega)]
  rfl
theorem AL.fork {d : Nat} {b : Bool} (hb : evA t (.tmp d) = .sc (.bool b)) (ht : b = true → AL P ops K l (t.set d (.sc (.bool true))) st) (hf : b = false → AL P ops K l (t.set d (.sc (.bool false))) st) : AL P ops K l t st := fun F ρ w0 w a hs hm => by
  cases b with
  | true => have := ht rfl; rw [hm.setB hb] at this; exact this F ρ w0 w a hs hm
  | false => have := hf rfl; rw [hm.setB hb] at this; exact this F ρ w0 w a hs hm
theorem AD.fork {fuel : Nat} {listed : Array Bool} {d : Nat} {b : Bool} (hb : evA t (.tmp d) = .sc (.bool b)) (ht : b = true → AD P l K fuel listed (t.set d (.sc (.bool true))) st) (hf : b = false → AD P l K fuel listed (t.set d (.sc (.bool false))) st) : AD P l K fuel listed t st := fun F ρ w0 w a hs hm => by
  cases b with
  | true => have := ht rfl; rw [hm.setB hb] at this; exact this F ρ w0 w a hs hm
  | false => have := hf rfl; rw [hm.setB hb] at this; exact this F ρ w0 w a hs hm
theorem AW.cond_t {x : Operand} {y z : Code} (hc : evA t x = .sc (.bool true)) (h : AW P y Q t st) : AW P (.cond x y z) Q t st := AW.cond hc (fun _ => h) (fun e => by cases e)
theorem AW.cond_f {x : Operand} {y z : Code} (hc : evA t x = .sc (.bool false)) (h : AW P z Q t st) : AW P (.cond x y z) Q t st := AW.cond hc (fun e => by cases e) (fun _ => h)
theorem AW.len {x : Operand} {xs : List (List AV)} (hx : evA t x = .sl xs) (h : xs.length ≤ maxLen → AW P c Q t st) : AW P c Q t st := fun F ρ w0 w a hs hm => by
  have h1 := hm.ev x
  rw [hx] at h1
  obtain ⟨A, cc, _, h2, h3⟩ := h1.sl_s.sl_inv
  exact h (by omega) F ρ w0 w a hs hm
theorem AL.len {x : Operand} {xs : List (List AV)} (hx : evA t x = .sl xs) (h : xs.length ≤ maxLen → AL P ops K l t st) : AL P ops K l t st := fun F ρ w0 w a hs hm => by
  have h1 := hm.ev x
  rw [hx] at h1
  obtain ⟨A, cc, _, h2, h3⟩ := h1.sl_s.sl_inv
  exact h (by omega) F ρ w0 w a hs hm
def anys : List AV → List Nat → List AV
  | t, [] => t
  | t, i :: is => anys (t.set i .any) is
def upds {α : Type} : List α → List (Nat × α) → List α
  | t, [] => t
  | t, p :: ps => upds (t.set p.1 p.2) ps
def offs (gs : Nat → Nat) : List TK → List Nat → List TK
  | s, [] => s
  | s, i :: is => offs gs (s.set i ⟨gs i, .off⟩) is
inductive Sk (scr : List Nat) : Nat → List TK → List TK → Prop
  | nil (i : Nat) : Sk scr i [] []
  | same (i : Nat) {x : TK} {a b : List TK} (h : Sk scr (i + 1) a b) : Sk scr i (x :: a) (x :: b)
  | scr (i : Nat) {x y : TK} {a b : List TK} (hi : scr.contains i = true) (h : Sk scr (i + 1) a b) : Sk scr i (x :: a) (y :: b)
theorem Sk.get {scr : List Nat} {i : Nat} {a b : List TK} (h : Sk scr i a b) : a.length = b.length ∧ ∀ j, scr.contains (i + j) = true ∨ a[j]? = b[j]? := by
  induction h with
  | nil i => exact ⟨rfl, fun j => .inr rfl⟩
  | same i h ih =>
    refine ⟨by simp [ih.1], fun j => ?_⟩
    cases j with
    | zero => exact .inr rfl
    | succ j =>
      rcases ih.2 j with h1 | h1
      · exact .inl (by rwa [show i + (j + 1) = i + 1 + j by omega])
      exact .inr (by simpa using h1)
  | scr i hi h ih =>
    refine ⟨by simp [ih.1], fun j => ?_⟩
    cases j with
    | zero => exact .inl hi
    | succ j =>
      rcases ih.2 j with h1 | h1
      · exact .inl (by rwa [show i + (j + 1) = i + 1 + j by omega])
      exact .inr (by simpa using h1)
theorem offs_get (gs : Nat → Nat) : ∀ (is : List Nat) (s : List TK) (j : Nat), (offs gs s is).length = s.length ∧ (offs gs s is)[j]? = if is.contains j = true ∧ j < s.length then some ⟨gs j, .off⟩ else s[j]?
  | [], s, j => by simp [offs]
  | i :: is, s, j => by
    obtain ⟨h1, h2⟩ := offs_get gs is (s.set i ⟨gs i, .off⟩) j
    refine ⟨by rw [offs, h1]; simp, ?_⟩; rw [offs, h2, List.length_set, List.getElem?_set]
    by_cases hj : j < s.length
    · by_cases e : i = j
      · subst e
        simp [hj]
      have e' : ¬ j = i := fun h => e h.symm
      simp [hj, e, e', List.contains_cons]
    have e2 : s[j]? = none := List.getElem?_eq_none (by omega)
    by_cases e : i = j
    · subst e; simp [hj, e2]
    simp [hj, e, e2]
theorem St.offs {F : Nat → Prop} {ρ : Loc} {w0 : Bs} {w : World} (hs : St F ρ st w0 w) (scr : List Nat) (gs : Nat → Nat) (hg : ∀ (j : Nat) (tk : TK), st[j]? = some tk → gs j = tk.g) : St F ρ (offs gs st scr) w0 w ∧ Mv F ρ st w ρ (Go.Proofs.Ytlapcfnmmpbeeaa.offs gs st scr) w := by
  have get : ∀ (j : Nat) (tk : TK), (Go.Proofs.Ytlapcfnmmpbeeaa.offs gs st scr)[j]? = some tk → tk.c ≠ .off → st[j]? = some tk := fun j tk h hne => by
    rw [(offs_get gs scr st j).2] at h
    split at h
    · injection h with h; subst h; exact (hne rfl).elim
    exact h
  have hfo : ∀ {k b : Nat} {c : TC}, foot ρ k c b → c ≠ .off := fun hf e => by subst e; exact hf
  have hmv : Mv F ρ st w ρ (Go.Proofs.Ytlapcfnmmpbeeaa.offs gs st scr) w := by
    refine ⟨fun b o hf ho => ⟨⟨hf.1, fun k tk hk hne => hf.2 k tk (get k tk hk (hfo hne)) hne⟩, ho⟩, fun k tk hk => ?_⟩
    have h2 := (offs_get gs scr st k).2
    split at h2
    · exact ⟨⟨gs k, .off⟩, h2, .inr (.inr (.inl ⟨hg k tk hk, rfl⟩))⟩
    exact ⟨tk, h2.trans hk, .inl ⟨rfl, rfl⟩⟩
  refine ⟨⟨hs.below, hs.fresh, fun k g ty cs hk => ?_, fun k g el sz xs hk => ?_, fun k g p hk => ?_, fun k tk b hk hne => hs.ge k tk b (get k tk hk (hfo hne)) hne, fun k tk k' tk' b hk hne hk' hne' => hs.inj k tk k' tk' b (get k tk hk (hfo hne)) hne (get k' tk' hk' (hfo hne')) hne', hist_mv hs.hist hmv⟩, hmv⟩
  rotate_right 1
  · exact p.stab (hs.obj k g p (get k _ hk (by simp))) (Nat.le_refl _) (fun b hb => ⟨hs.fresh b hb, fun j tk hj hf => by have := (hs.ge j tk b (get j tk hj (hfo hf)) hf).2; omega⟩) hmv.free (fun b _ => rfl)
  · obtain ⟨vs, h1, h2, h3, h4⟩ := hs.box k g ty cs (get k _ hk (by simp))
    exact ⟨vs, h1, h2, h3, fun j v x hv hx => (h4 j v x hv hx).mv hmv⟩
  obtain ⟨vs, h1, h2, h3, h4, h5⟩ := hs.own k g el sz xs (get k _ hk (by simp))
  exact ⟨vs, h1, h2, h3, h4, fun i j cs v x a b c => (h5 i j cs v x a b c).mv hmv.free⟩
theorem AW.offs (scr : List Nat) (gs : Nat → Nat) (hg : ∀ (j : Nat) (tk : TK), st[j]? = some tk → gs j = tk.g) (h : AW P c Q t (offs gs st scr)) : AW P c Q t st := fun F ρ w0 w a hs hm => by
  obtain ⟨h1, h2⟩ := hs.offs scr gs hg
  exact h F ρ w0 w a h1 (hm.mv h2)
theorem AW.loopM {ι : Type} (scr : List Nat) (up : ι → List (Nat × AV)) (tscr : List Nat) (tup : ι → List (Nat × TK)) (J : ι → Prop) (μ : ι → Nat) (k0 : ι) (hJ : J k0) (hw : Wk t (upds (anys t scr) (up k0))) (hs : Sk tscr 0 st (upds st (tup k0)))
    (round : ∀ k gs, J k → AW P c (thenA (fun t' st' => ∃ k', J k' ∧ μ k' < μ k ∧ Wk t' (upds (anys t scr) (up k')) ∧ Sk tscr 0 st' (upds st (tup k'))) Q) (upds (anys t scr) (up k)) (Go.Proofs.Ytlapcfnmmpbeeaa.offs gs (upds st (tup k)) tscr)) : AW P (.loop c) Q t st := by
  have key : ∀ (s' : List TK) (k : ι), Sk tscr 0 s' (upds st (tup k)) → ∀ {cc : Code} {QQ : APost} {tt : List AV}, (∀ gs, AW P cc QQ tt (Go.Proofs.Ytlapcfnmmpbeeaa.offs gs (upds st (tup k)) tscr)) → AW P cc QQ tt s' := by
    intro s' k hsk cc QQ tt h; obtain ⟨h1, h2⟩ := hsk.get
    let gs : Nat → Nat := fun j => ((s'[j]?).map TK.g).getD 0
    refine AW.offs tscr gs (fun j tk hj => by simp [gs, hj]) ?_
    have e : Go.Proofs.Ytlapcfnmmpbeeaa.offs gs s' tscr = Go.Proofs.Ytlapcfnmmpbeeaa.offs gs (upds st (tup k)) tscr := by
      apply List.ext_getElem?
      intro j; rw [(offs_get gs tscr s' j).2, (offs_get gs tscr _ j).2, h1]
      rcases h2 j with h3 | h3
      · rw [Nat.zero_add] at h3
        by_cases hj : j < (upds st (tup k)).length
        · simp only [h3, hj, and_self, if_true]
        simp only [h3, hj, and_false, if_false]
        rw [List.getElem?_eq_none (by omega), List.getElem?_eq_none (by omega)]
      rw [h3]
    rw [e]
    exact h gs
  refine AW.loop (fun n t' st' => ∃ k, J k ∧ μ k = n ∧ Wk t' (upds (anys t scr) (up k)) ∧ Sk tscr 0 st' (upds st (tup k))) (μ k0) ⟨k0, hJ, rfl, hw, hs⟩ ?_; intro n t' st' ⟨k, hJk, hk, hwk, hsk⟩; subst hk; refine AW.wk hwk (key st' k hsk fun gs => (round k gs hJk).mono fun e t2 st2 h => ?_)
  cases e with
  | normal => obtain ⟨k', h1, h2, h3, h4⟩ := h; exact ⟨μ k', h2, k', h1, rfl, h3, h4⟩
  | _ => exact h
theorem AW.norm {t' : List AV} {st' : List TK} (ht : t = t') (hs : st = st') (h : AW P c Q t' st') : AW P c Q t st := by subst ht hs; exact h
theorem rd_arith_add {o : Oper} {x y : Operand} {xt yt : TypeId} {k : IntKind} {a b r : Int} (ho : o.op = .binOp .add xt x y yt) (hx : evV t x = some (.int k a)) (hy : evV t y = some (.int k b)) (hw : k.wrap (a + b) = r) : ARd P o t st (.sc (.int k r)) :=
  rd_bin ho hx hy fun w => by subst hw; simp [eqGuard, binOp, Op.intArith, Sem.run_bind]
theorem rd_arith_sub {o : Oper} {x y : Operand} {xt yt : TypeId} {k : IntKind} {a b r : Int} (ho : o.op = .binOp .sub xt x y yt) (hx : evV t x = some (.int k a)) (hy : evV t y = some (.int k b)) (hw : k.wrap (a - b) = r) : ARd P o t st (.sc (.int k r)) :=
  rd_bin ho hx hy fun w => by subst hw; simp [eqGuard, binOp, Op.intArith, Sem.run_bind]
theorem rd_arith_mul {o : Oper} {x y : Operand} {xt yt : TypeId} {k : IntKind} {a b r : Int} (ho : o.op = .binOp .mul xt x y yt) (hx : evV t x = some (.int k a)) (hy : evV t y = some (.int k b)) (hw : k.wrap (a * b) = r) : ARd P o t st (.sc (.int k r)) :=
  rd_bin ho hx hy fun w => by subst hw; simp [eqGuard, binOp, Op.intArith, Sem.run_bind]
theorem find_some {α : Type} {p : α → Bool} {l : List α} {k : Nat} (hk : k < l.length) (h : ∀ i (hi : i < l.length), i < k → p l[i] = false) (h' : p l[k] = true) : l.findIdx? p = some k := by
  rw [List.findIdx?_eq_some_iff_getElem]
  exact ⟨hk, h', fun j hj => by rw [h j (by omega) hj]; simp⟩
theorem find_none {α : Type} {p : α → Bool} {l : List α} (h : ∀ i (hi : i < l.length), p l[i] = false) : l.findIdx? p = none := by
  rw [List.findIdx?_eq_none_iff]
  intro x hx; obtain ⟨i, hi, rfl⟩ := List.getElem_of_mem hx; exact h i hi
theorem all_next {p : Nat → Prop} {k : Nat} (h : ∀ i, i < k → p i) (h' : p k) : ∀ i, i < k + 1 → p i := fun i hi => by
  rcases Nat.lt_or_ge i k with h1 | h1
  · exact h i h1
  obtain rfl : i = k := by omega
  exact h'
theorem all_nextL {α : Type} {l : List α} {p : α → Prop} {k : Nat} (hk : k < l.length) (h : ∀ i (hi : i < l.length), i < k → p l[i]) (h' : p l[k]) : ∀ i (hi : i < l.length), i < k + 1 → p l[i] := fun i hi hik => by
  rcases Nat.lt_or_ge i k with h1 | h1
  · exact h i hi h1
  obtain rfl : i = k := by omega
  exact h'
theorem take_eq_next {α : Type} {a b : List α} {k : Nat} (ha : k < a.length) (hb : k < b.length) (h : a.take k = b.take k) (he : a[k] = b[k]) : a.take (k + 1) = b.take (k + 1) := by
  rw [List.take_succ_eq_append_getElem ha, List.take_succ_eq_append_getElem hb, h, he]
theorem get_mapA {α : Type} {l : List α} {f : α → List AV} {k : Nat} (h : k < l.length) : (l.map f)[k]? = some (f l[k]) := by simp [h]
end
def apI (P : Program) (T : TypeId) : Option (TypeId × Nat × Nat) := match P.underlying T with
  | some (.slice e) => (P.info? e).bind fun i => i.zero.bind fun z => if z.cells.size = i.size ∧ 0 < i.size then some (e, i.size, i.bytes) else none
  | _ => none
theorem ap_parts {P : Program} {T e sz by_ : Nat} (h : apI P T = some (e, sz, by_)) : P.underlying T = some (.slice e) ∧ 0 < sz ∧ ∃ i z, P.info? e = some i ∧ i.zero = some z ∧ i.size = sz ∧ i.bytes = by_ ∧ z.cells.size = sz := by
  unfold apI at h
  split at h
  · rename_i e' hu
    cases hi : P.info? e' with
    | none => rw [hi] at h; cases h
    | some i =>
      rw [hi] at h
      simp only [Option.bind_some] at h
      cases hz : i.zero with
      | none => rw [hz] at h; cases h
      | some z =>
        rw [hz] at h
        simp only [Option.bind_some] at h
        split at h
        · rename_i hc
          injection h with h
          simp at h
          obtain ⟨rfl, rfl, rfl⟩ := h
          exact ⟨hu, hc.2, i, z, hi, hz, rfl, rfl, hc.1⟩
        cases h
  cases h
section
variable {P : Program} {o : Oper} {t : List AV} {st : List TK} {x y s : Operand} {K : AV → List TK → Prop}
def Src (t : List AV) (st : List TK) (x : Operand) (sz : Nat) (ys : List (List AV)) : Prop := ∀ F ρ w0 w a, St F ρ st w0 w → Fm F ρ st w a t → ∃ (A : Option Addr) (c : Nat) (news : List Value), a.eval x = .slice A ys.length c ∧ news.length = ys.length * sz ∧ (∀ u ∈ news, u.oneCell' = true) ∧
  (∀ (i j : Nat) (cs : List AV) v z, ys[i]? = some cs → cs[j]? = some z → news[i * sz + j]? = some v → RepS (Free F ρ st) w v z) ∧ (∀ (i : Nat) (cs : List AV), ys[i]? = some cs → cs.length = sz) ∧ (A = none → ys = []) ∧ ∀ (j : Nat) (v : Value), news[j]? = some v → ∃ b off, A = some ⟨b, off, none⟩ ∧ w.cell? ⟨b, off + j, none⟩ = some v
theorem src_sl {sz : Nat} {ys : List (List AV)} (hx : evA t x = .sl ys) (hl : ∀ cs ∈ ys, cs.length = sz) : Src t st x sz ys := fun F ρ w0 w a hs hm => by
  have h := hm.ev x
  rw [hx] at h
  have h := h.sl_s
  generalize hq : a.eval x = q at *
  cases h with
  | sl0 A c hc => exact ⟨A, c, [], rfl, by simp, by simp, fun i j cs v z h => by simp at h, fun i cs h => by simp at h, fun _ => rfl, fun j v h => by simp at h⟩
  | sl1 b off n c sz' V _ hn h0 hnc hc hsz hf hl' hv h1 hr =>
    have hs' : sz' = sz := by
      have h3 : ys[0]? = some (ys[0]'(by omega)) := List.getElem?_eq_getElem (by omega)
      rw [← hl' 0 _ h3, hl _ (List.getElem_mem _)]
    subst hs'
    refine ⟨some ⟨b, off, none⟩, c, (List.range (n * sz')).map (fun q => V (q / sz') (q % sz')), by rw [hn], by simp [hn], ?_, ?_, hl', (fun e => by cases e), ?_⟩
    · intro u hu; simp at hu; obtain ⟨q, _, rfl⟩ := hu; exact h1 _ _
    · intro i j cs v z hi hj hv'
      have hj' : j < sz' := by rw [← hl' i cs hi]; exact (List.getElem?_eq_some_iff.1 hj).1
      simp only [List.getElem?_map] at hv'
      cases hq2 : (List.range (n * sz'))[i * sz' + j]? with
      | none => rw [hq2] at hv'; cases hv'
      | some q =>
        rw [hq2] at hv'
        have hqq : q = i * sz' + j := by
          have := (List.getElem?_eq_some_iff.1 hq2).2
          simpa using this.symm
        simp at hv'
        subst hv' hqq
        have e1 : (i * sz' + j) / sz' = i := by rw [Nat.mul_comm, Nat.mul_add_div hsz, Nat.div_eq_of_lt hj', Nat.add_zero]
        have e2 : (i * sz' + j) % sz' = j := by rw [Nat.mul_comm, Nat.mul_add_mod, Nat.mod_eq_of_lt hj']
        rw [e1, e2]
        exact hr i j cs z hi hj
    intro j v hj; simp only [List.getElem?_map] at hj
    cases hq2 : (List.range (n * sz'))[j]? with
    | none => rw [hq2] at hj; cases hj
    | some q =>
      rw [hq2] at hj
      have hjlt : j < n * sz' := by have := (List.getElem?_eq_some_iff.1 hq2).1; simpa using this
      have hqq : q = j := by
        have := (List.getElem?_eq_some_iff.1 hq2).2
        simpa using this.symm
      simp at hj
      subst hj hqq
      refine ⟨b, off, rfl, ?_⟩
      have := hv (q / sz') (q % sz') (Nat.div_lt_of_lt_mul (by rw [Nat.mul_comm]; exact hjlt)) (Nat.mod_lt _ hsz)
      rw [← this]
      congr 2
      rw [Nat.mul_comm, Nat.div_add_mod]
theorem src_ow {k g sz el : Nat} {ys : List (List AV)} (hx : evA t x = .ow k g) (hk : st[k]? = some ⟨g, .own el sz ys⟩) : Src t st x sz ys := fun F ρ w0 w a hs hm => by
  have h := hm.ev x
  rw [hx] at h
  obtain ⟨vs, h1, h2, h3, h4, h5⟩ := hs.own k g el sz ys hk
  refine ⟨_, _, vs, h.ow_inv hk, h1.1, h3, h5, h4, (fun e => by cases e), fun j v hj => ⟨(ρ k).1, 0, rfl, ?_⟩⟩
  have h6 := h1.cells (g := (ρ k).1) rfl j v hj
  rw [Nat.zero_add, ← h6]
  congr 1
  unfold Addr.add
  split <;> simp_all
theorem St.regrow {F : Nat → Prop} {ρ : Loc} {w0 : Bs} {w w' : World} {k g' : Nat} {tk : TK} {row : Option Nat} (hs : St F ρ st w0 w) (hk : st[k]? = some tk) (hrow : ∀ b, row = some b → tk.c.blk ∧ b = (ρ k).1) (hg : w.grownBy w' row) (hgp : (tk.c.blk ∧ g' = (ρ k).1) ∨ g' = w.heap.size) (hlt : g' < w'.heap.size) (el sz cap : Nat) (xs : List (List AV))
    (hown : ∃ us : List Value, w'.ownsRow 0 el sz (.slice (some ⟨g', 0, none⟩) xs.length cap) xs.length us ∧ 0 < sz ∧ (∀ v ∈ us, v.oneCell' = true) ∧ (∀ (i : Nat) (cs : List AV), xs[i]? = some cs → cs.length = sz) ∧
      ∀ (i j : Nat) (cs : List AV) v x, xs[i]? = some cs → cs[j]? = some x → us[i * sz + j]? = some v → RepS (Free F ρ st) w v x) :
    ∃ ρ' : Loc, ρ' k = (g', cap) ∧ St F ρ' (st.set k ⟨tk.g + 1, .own el sz xs⟩) w0 w' ∧ Mv F ρ st w ρ' (st.set k ⟨tk.g + 1, .own el sz xs⟩) w' := by
  have hklt := (List.getElem?_eq_some_iff.1 hk).1
  let ρ' : Loc := fun j => if j = k then (g', cap) else ρ j
  have hρk : ρ' k = (g', cap) := by simp [ρ']
  have hρj : ∀ j, j ≠ k → ρ' j = ρ j := fun j hj => by simp [ρ', hj]
  have hge : (w0.w.heap.size ≤ g' ∨ w0.M g') ∧ F g' := by
    rcases hgp with ⟨hb, rfl⟩ | rfl
    · exact (hs.geB k tk hk hb).1
    exact ⟨.inl hs.below.size, hs.fresh _ (Nat.le_refl _)⟩
  have hnew : ∀ j q b, j ≠ k → st[j]? = some q → foot ρ j q.c b → g' ≠ b := fun j q b hj hq hf e => by
    rcases hgp with ⟨hb, rfl⟩ | rfl
    · exact hj (hs.inj j q k tk b hq hf hk (e ▸ foot_self hb))
    have := (hs.ge j q b hq hf).2; omega
  have hmv : Mv F ρ st w ρ' (st.set k ⟨tk.g + 1, .own el sz xs⟩) w' := Mv.upd hk hρj (fun b o hf ho => ⟨fun h => by
    have h' : (ρ' k).1 = b := h
    rw [hρk] at h'
    simp only at h'
    rcases hgp with ⟨hb, rfl⟩ | rfl
    · exact hf.ne k tk hk hb h'
    · have := (Array.getElem?_eq_some_iff.1 ho).1; omega, (hg.block b (Array.getElem?_eq_some_iff.1 ho).1 (fun e => by
    obtain ⟨h1, h2⟩ := hrow b e.symm
    exact hf.ne k tk hk h1 h2.symm)).trans ho⟩) (.inr (.inl (Nat.lt_succ_self _)))
  have hbel : Bel w0 w' := hs.below.grown hg fun b e => by
    obtain ⟨h1, h2⟩ := hrow b e
    rw [h2]
    exact (hs.geB k tk hk h1).1.1
  refine ⟨ρ', hρk, hs.upd hk hρj hbel hg.size hmv (fun j q b hj hq hf => hg.block b (hs.ge j q b hq hf).2 (fun e => ?_)) (fun b hf => ?_) (fun j q b hj hq hf hf' => ?_) (fun ty cs e => by cases e) (fun el' sz' xs' e => ?_) (fun p e => by cases e), hmv⟩
  · obtain ⟨h1, h2⟩ := hrow b e.symm
    exact hj (hs.inj j q k tk b hq hf hk (h2 ▸ foot_self h1))
  · have h' : (ρ' k).1 = b := hf
    rw [hρk] at h'
    simp only at h'
    subst h'
    exact ⟨hge, hlt⟩
  · have h' : (ρ' k).1 = b := hf'
    rw [hρk] at h'
    exact hnew j q b hj hq hf h'
  injection e with e1 e2 e3
  subst e1 e2 e3
  obtain ⟨us, h1, h2, h3, h4, h5⟩ := hown
  rw [hρk]
  exact ⟨us, h1, h2, h3, h4, fun i j cs v x a b c => (h5 i j cs v x a b c).mv hmv.free⟩
theorem cat_rep {R : Value → AV → Prop} {sz : Nat} {xs ys : List (List AV)} {vs news : List Value} (hv : vs.length = xs.length * sz) (hx : ∀ (i : Nat) (cs : List AV), xs[i]? = some cs → cs.length = sz) (h1 : ∀ (i j : Nat) (cs : List AV) v z, xs[i]? = some cs → cs[j]? = some z → vs[i * sz + j]? = some v → R v z)
    (h2 : ∀ (i j : Nat) (cs : List AV) v z, ys[i]? = some cs → cs[j]? = some z → news[i * sz + j]? = some v → R v z) : ∀ (i j : Nat) (cs : List AV) v z, (xs ++ ys)[i]? = some cs → cs[j]? = some z → (vs ++ news)[i * sz + j]? = some v → R v z := by
  intro i j cs v z hi hj hvv
  rcases Nat.lt_or_ge i xs.length with h | h
  · rw [List.getElem?_append_left h] at hi
    have hj' : j < sz := by rw [← hx i cs hi]; exact (List.getElem?_eq_some_iff.1 hj).1
    have hlt : i * sz + j < vs.length := by
      rw [hv]
      calc i * sz + j < i * sz + sz := by omega
        _ = (i + 1) * sz := by rw [Nat.add_mul, Nat.one_mul]
        _ ≤ xs.length * sz := Nat.mul_le_mul_right _ h
    rw [List.getElem?_append_left hlt] at hvv
    exact h1 i j cs v z hi hj hvv
  rw [List.getElem?_append_right h] at hi
  have hle : xs.length * sz ≤ i * sz := Nat.mul_le_mul_right _ h
  rw [List.getElem?_append_right (by rw [hv]; omega), hv] at hvv
  have e : i * sz + j - xs.length * sz = (i - xs.length) * sz + j := by rw [Nat.sub_mul]; omega
  rw [e] at hvv
  exact h2 _ j cs v z hi hj hvv
theorem op_append {T e k g sz by_ : Nat} {xs ys : List (List AV)} (ho : o.op = .call { callee := .builtin .append, args := #[s, x], argTypes := #[T, T] }) (hT : apI P T = some (e, sz, by_)) (hs : evA t s = .ow k g) (hk : st[k]? = some ⟨g, .own e sz xs⟩) (hx : Src t st x sz ys) (hsz : (xs.length + ys.length) * by_ ≤ 140737488355328) (hml : xs.length + ys.length ≤ 9223372036854775807)
    (h : K (.ow k (g + 1)) (st.set k ⟨g + 1, .own e sz (xs ++ ys)⟩)) : AOp P o t st K := fun F ρ w0 w a hst hm next Q hn => by
  obtain ⟨hu, hpos, i, z, hi, hz0, hz1, hz2, hz⟩ := ap_parts hT
  obtain ⟨A, c, news, he, hn1, hn2, hn3, hn4, hn5, hn6⟩ := hx F ρ w0 w a hst hm
  have hv := hm.ev s
  rw [hs] at hv
  have hv := hv.ow_inv hk
  obtain ⟨vs, h1, h2, h3, h4, h5⟩ := hst.own k g e sz xs hk
  have hge := hst.geB k _ hk (by simp)
  have key : ∃ v' w', (Builtin.append_ #[T, T] o.type #[.slice (some ⟨(ρ k).1, 0, none⟩) xs.length (ρ k).2, .slice A ys.length c]).run P w = .ok v' w' ∧ w'.ownsRow 0 e sz v' (xs.length + ys.length) (vs ++ news) ∧ w.grownBy w' (some (ρ k).1) ∧ (v'.ownBlock = some (ρ k).1 ∨ v'.ownBlock = some w.heap.size) := by
    rcases A with _ | ad
    · obtain rfl := hn5 rfl
      have hnn : news = [] := List.eq_nil_of_length_eq_zero (by simpa using hn1)
      subst hnn
      refine ⟨_, w, ?_, by simpa using h1, World.grownBy.refl w _, .inl rfl⟩
      have hnc := (own_form' h1).1
      simp [Builtin.append_, run_underlying hu, sizeOf, typeInfo, hi, Builtin.lenOf, Builtin.firstCells, hnc, storeCells]
    have hcells : ∀ j u, news[j]? = some u → w.cell? (ad.add j) = some u := fun j u hj => by
      obtain ⟨b, off, h', hc⟩ := hn6 j u hj
      injection h' with h'
      subst h'
      rw [Addr.add_mid, hc]
    obtain ⟨v', w', hrun, g2, g3, _, g4⟩ := run_append_own_at (P := P) w 0 T o.type e i z sz by_ hu hi hz0 hz1 hz2 hz hpos _ xs.length vs h1 ad ys.length c news hn1 hcells hn2 (by unfold maxLen; exact hml) hsz (Nat.zero_le _)
    exact ⟨v', w', hrun, g2, g3, g4⟩
  obtain ⟨v', w', hrun, g2, g3, g4⟩ := key
  have hex : ∃ g' cap, v' = .slice (some ⟨g', 0, none⟩) (xs ++ ys).length cap ∧ (g' = (ρ k).1 ∨ g' = w.heap.size) := by
    rcases g2.2 with ⟨h', h0⟩ | ⟨g', cap, cur, h', _⟩
    · rw [h'] at g4
      rcases g4 with g4 | g4 <;> cases g4
    rw [h'] at g4
    refine ⟨g', cap, by rw [h', List.length_append], ?_⟩
    rcases g4 with g4 | g4
    · injection g4 with g4; exact .inl g4
    injection g4 with g4; exact .inr g4
  obtain ⟨g', cap, rfl, hg'⟩ := hex
  rw [← List.length_append] at g2
  obtain ⟨ρ', hρ, hs', hmv⟩ := hst.regrow (row := some (ρ k).1) hk (fun b e => by injection e with e; exact ⟨by simp, e.symm⟩) g3 (hg'.imp (fun e => ⟨by simp, e⟩) id) (g2.lt g' rfl).2 e sz cap (xs ++ ys) ⟨vs ++ news, g2, h2, fun v hv => (List.mem_append.1 hv).elim (h3 v) (hn2 v), fun i cs hc => by
      rcases Nat.lt_or_ge i xs.length with hlt | hge
      · rw [List.getElem?_append_left hlt] at hc; exact h4 i cs hc
      rw [List.getElem?_append_right hge] at hc; exact hn4 _ cs hc, cat_rep h1.1 h4 h5 hn3⟩
  have hrun2 : (execOp a.eval o).run P w = .ok (.value (.slice (some ⟨g', 0, none⟩) (xs ++ ys).length cap)) w' := by
    simp only [execOp, ho, resolve, invoke, builtin, Sem.run_bind, Sem.run_pure, Result.andThen_ok, List.map_toArray, List.map_cons, List.map_nil, hv, he, hrun]
  unfold Oper.wp
  rw [hrun2]
  have hk2 : (st.set k ⟨g + 1, .own e sz (xs ++ ys)⟩)[k]? = some ⟨g + 1, .own e sz (xs ++ ys)⟩ := by rw [List.getElem?_set_self (List.getElem?_eq_some_iff.1 hk).1]
  have hrep := Rep.ow (F := F) (ρ := ρ') (w := w') k (g + 1) e sz (xs ++ ys) hk2
  rw [hρ] at hrep
  exact hn _ w' ρ' _ _ hs' hmv hrep h
theorem op_append0 {T e sz by_ : Nat} {ys : List (List AV)} (k : Nat) {tk : TK} (ho : o.op = .call { callee := .builtin .append, args := #[s, x], argTypes := #[T, T] }) (hT : apI P T = some (e, sz, by_)) (hs : (∃ el sz', evA t s = .ow k tk.g ∧ tk.c = .nown el sz') ∨ evV t s = some (.slice none 0 0)) (hk : st[k]? = some tk) (hx : Src t st x sz ys) (hne : ys ≠ []) (hsz : ys.length * by_ ≤ 140737488355328) (hml : ys.length ≤ 9223372036854775807)
    (h : K (.ow k (tk.g + 1)) (st.set k ⟨tk.g + 1, .own e sz ys⟩)) : AOpB P o t st K := fun F ρ w0 w a hst hm next Q hn => by
  obtain ⟨hu, hpos, i, z, hi, hz0, hz1, hz2, hz⟩ := ap_parts hT
  obtain ⟨A, c, news, he, hn1, hn2, hn3, hn4, hn5, hn6⟩ := hx F ρ w0 w a hst hm
  have hv : a.eval s = .slice none 0 0 := by
    rcases hs with ⟨el, sz', h1, h2⟩ | h1
    · have hv := hm.ev s
      rw [h1] at hv
      exact hv.ow0_inv (by rw [hk, ← h2])
    exact hm.val h1
  rcases A with _ | ad
  · exact absurd (hn5 rfl) hne
  have hcells : ∀ j u, news[j]? = some u → w.cell? (ad.add j) = some u := fun j u hj => by
    obtain ⟨b, off, h', hc⟩ := hn6 j u hj
    injection h' with h'
    subst h'
    rw [Addr.add_mid, hc]
  obtain ⟨v', w', hrun, g2, g3, _, g4⟩ := run_append_own_at (P := P) w 0 T o.type e i z sz by_ hu hi hz0 hz1 hz2 hz hpos _ 0 [] (World.ownsRow_nil w 0 e sz) ad ys.length c news hn1 hcells hn2 (by rw [Nat.zero_add]; unfold maxLen; exact hml) (by rw [Nat.zero_add]; exact hsz) (Nat.zero_le _)
  rw [Nat.zero_add, List.nil_append] at g2
  have hg0 : (Value.slice none 0 0).ownBlock = none := rfl
  rw [hg0] at g3 g4
  have hex : ∃ cap, v' = .slice (some ⟨w.heap.size, 0, none⟩) ys.length cap := by
    rcases g2.2 with ⟨h', h0⟩ | ⟨g', cap, cur, h', _⟩
    · exact absurd (List.eq_nil_of_length_eq_zero h0) hne
    rw [h'] at g4
    rcases g4 with g4 | g4
    · cases g4
    injection g4 with g4
    simp at g4
    exact ⟨cap, by rw [h', g4]⟩
  obtain ⟨cap, rfl⟩ := hex
  obtain ⟨ρ', hρ, hs', hmv⟩ := hst.regrow (row := none) hk (fun b e => by cases e) g3 (.inr rfl) (g2.lt _ rfl).2 e sz cap ys ⟨news, g2, hpos, hn2, hn4, hn3⟩
  have hrun2 : (execOp a.eval o).run P w = .ok (.value (.slice (some ⟨w.heap.size, 0, none⟩) ys.length cap)) w' := by
    simp only [execOp, ho, resolve, invoke, builtin, Sem.run_bind, Sem.run_pure, Result.andThen_ok, List.map_toArray, List.map_cons, List.map_nil, hv, he, hrun]
  unfold Oper.wp
  rw [hrun2]
  have hk2 : (st.set k ⟨tk.g + 1, .own e sz ys⟩)[k]? = some ⟨tk.g + 1, .own e sz ys⟩ := by rw [List.getElem?_set_self (List.getElem?_eq_some_iff.1 hk).1]
  have hrep := Rep.ow (F := F) (ρ := ρ') (w := w') k (tk.g + 1) e sz ys hk2
  rw [hρ] at hrep
  exact hn _ w' ρ' _ _ hs' hmv hrep (below_of_grown g3) h
end
def fillA (place : Nat → Option (Nat × Nat)) (cells : List AV) : List (Nat × List AV) → Option (List AV)
  | [] => some cells
  | (i, zs) :: rest => match place i with
    | none => none
    | some (off, size) => if zs.length ≠ size || off + zs.length > cells.length then none else fillA place (splA cells off zs) rest
def partsA (t : List AV) (st : List TK) : List (Nat × Operand) → Option (List (Nat × List AV))
  | [] => some []
  | (i, x) :: rest => match (evA t x).cells?, partsA t st rest with | some zs, some ps => if liveA st (evA t x) then some ((i, zs) :: ps) else none | _, _ => none
theorem foldl_splV (off : Nat) : ∀ (l : List Value) (k : Nat) (cs : Array Value), (l.zipIdx k).foldl (fun (cs : Array Value) (p : Value × Nat) => cs.setIfInBounds (off + p.2) p.1) cs = splV cs (off + k) l
  | [], _, _ => rfl
  | u :: us, k, cs => by
    rw [List.zipIdx_cons, List.foldl_cons, foldl_splV off us (k + 1)]
    rfl
section
variable {P : Program} {o : Oper} {t : List AV} {st : List TK} {x y s : Operand} {K : AV → List TK → Prop}
theorem fill_rel {R : Value → AV → Prop} (place : Nat → Option (Nat × Nat)) : ∀ (ps : List (Nat × Value)) (qs : List (Nat × List AV)) (vs : Array Value) (cs cs' : List AV), ps.length = qs.length → (∀ (j : Nat) p q, ps[j]? = some p → qs[j]? = some q → p.1 = q.1 ∧ p.2.cells.size = q.2.length ∧ (∀ u ∈ p.2.cells, u.oneCell' = true) ∧ ∀ (i : Nat) v z, p.2.cells[i]? = some v → q.2[i]? = some z → R v z) →
    vs.size = cs.length → (∀ v ∈ vs, v.oneCell' = true) → (∀ (j : Nat) v x, vs[j]? = some v → cs[j]? = some x → R v x) → fillA place cs qs = some cs' → ∃ vs', Instr.fill place vs ps = some vs' ∧ vs'.size = cs'.length ∧ (∀ v ∈ vs', v.oneCell' = true) ∧ ∀ (j : Nat) v x, vs'[j]? = some v → cs'[j]? = some x → R v x
  | [], [], vs, cs, cs', _, _, h1, h2, h3, hf => by simp [fillA] at hf; subst hf; exact ⟨vs, rfl, h1, h2, h3⟩
  | (i, v) :: ps, (i', zs) :: qs, vs, cs, cs', hl, hp, h1, h2, h3, hf => by
    obtain ⟨e1, e2, e3, e4⟩ := hp 0 _ _ rfl rfl
    simp at e1 e2
    subst e1
    simp only [fillA] at hf
    simp only [Instr.fill]
    cases hpl : place i with
    | none => rw [hpl] at hf; cases hf
    | some q =>
      obtain ⟨off, size⟩ := q
      rw [hpl] at hf
      simp only [] at hf ⊢
      split at hf
      · cases hf
      rename_i hc
      simp at hc
      rw [if_neg (by simp; omega)]
      have e : (v.cells.zipIdx.foldl (fun cs (p : Value × Nat) => cs.setIfInBounds (off + p.2) p.1) vs) = splV vs off v.cells.toList := by
        rw [← Array.foldl_toList, Array.toList_zipIdx]
        exact foldl_splV off v.cells.toList 0 vs
      have key := fill_rel place ps qs (splV vs off v.cells.toList) (splA cs off zs) cs' (by simpa using hl) (fun j p q a b => hp (j + 1) p q (by simpa using a) (by simpa using b)) (by rw [splV_size, splA_len, h1]) (splV_one _ _ _ h2 fun u hu => e3 u (by simpa using hu)) (spl_rel v.cells.toList zs cs vs off (by simpa using e2) h1 h3 fun j u z a b => e4 j u z (by simpa using a) b) hf
      rw [← e] at key
      exact key
  | [], _ :: _, _, _, _, hl, _, _, _, _, _ => by simp at hl
  | _ :: _, [], _, _, _, hl, _, _, _, _, _ => by simp at hl
theorem parts_rep {F : Nat → Prop} {ρ : Loc} {w : World} {a : Act} (hm : Fm F ρ st w a t) : ∀ (ps : List (Nat × Operand)) (qs : List (Nat × List AV)), partsA t st ps = some qs → (ps.map fun p => (p.1, a.eval p.2)).length = qs.length ∧ ∀ (j : Nat) p q, (ps.map fun p => (p.1, a.eval p.2))[j]? = some p → qs[j]? = some q → p.1 = q.1 ∧ p.2.cells.size = q.2.length ∧ (∀ u ∈ p.2.cells, u.oneCell' = true) ∧ ∀ (i : Nat) v z, p.2.cells[i]? = some v → q.2[i]? = some z → Rep F ρ st w v z
  | [], qs, h => by simp [partsA] at h; subst h; simp
  | (i, x) :: ps, qs, h => by
    simp only [partsA] at h
    cases h1 : (evA t x).cells? with
    | none => rw [h1] at h; cases h
    | some zs =>
      cases h2 : partsA t st ps with
      | none => rw [h1, h2] at h; cases h
      | some qs' =>
        rw [h1, h2] at h
        simp only [] at h
        split at h
        · rename_i hl
          injection h with h
          subst h
          obtain ⟨h3, h4⟩ := parts_rep hm ps qs' h2
          refine ⟨by simpa using h3, fun j p q hp hq => ?_⟩
          cases j with
          | zero =>
            simp at hp hq
            subst hp hq
            obtain ⟨g1, g2, g3⟩ := (hm.ev x).cells h1 (fun k g e => live_ow (by rw [← e]; exact hl)) (fun k g o e => live_bx (by rw [← e]; exact hl))
            exact ⟨rfl, g1, g2, g3⟩
          | succ j => exact h4 j p q (by simpa using hp) (by simpa using hq)
        cases h
def plI (P : Program) (T : TypeId) : Option (List (Nat × Nat)) := match P.underlying T with
  | some (.struct fs) => fs.toList.mapM fun f => (P.info? f.type).map fun i => (f.offset, i.size)
  | _ => none
theorem run_places {fs : List Field} {pls : List (Nat × Nat)} {w : World} (h : fs.mapM (fun f => (P.info? f.type).map fun i => (f.offset, i.size)) = some pls) : (fs.mapM (fun f => (do pure (f.offset, ← sizeOf f.type) : Sem (Nat × Nat)))).run P w = .ok pls w := by
  induction fs generalizing pls with
  | nil => simp at h; subst h; simp
  | cons f fs ih =>
    rw [List.mapM_cons] at h ⊢
    cases hi : P.info? f.type with
    | none => rw [hi] at h; simp at h
    | some i =>
      cases hm : fs.mapM (fun f => (P.info? f.type).map fun i => (f.offset, i.size)) with
      | none => rw [hi, hm] at h; simp at h
      | some l =>
        rw [hi, hm] at h
        simp at h
        subst h
        have hz : (do pure (f.offset, ← sizeOf f.type) : Sem (Nat × Nat)).run P w = .ok (f.offset, i.size) w := by simp [sizeOf, typeInfo, hi, Sem.run_bind]
        rw [Sem.run_bind, hz, Result.andThen_ok, Sem.run_bind, ih hm]
        rfl
theorem rd_build {T : TypeId} {parts : Array (Nat × Operand)} {pls : List (Nat × Nat)} {zl : List Value} {qs : List (Nat × List AV)} {cs : List AV} (ho : o.op = .build T parts) (hT : plI P T = some pls) (hz : zeroC P T = some zl) (hq : partsA t st parts.toList = some qs) (hf : fillA (fun i => pls[i]?) (zl.map .sc) qs = some cs) : ARd P o t st (.ag cs) := fun F ρ w0 w a hs hm => by
  obtain ⟨h1, h2⟩ := parts_rep hm parts.toList qs hq
  unfold zeroC at hz
  cases hi : P.info? T with
  | none => rw [hi] at hz; cases hz
  | some i =>
    rw [hi] at hz
    cases hzz : i.zero with
    | none => simp [hzz] at hz
    | some zv =>
      simp [hzz] at hz
      obtain ⟨hone, rfl⟩ := hz
      obtain ⟨vs', g1, g2, g3, g4⟩ := fill_rel (R := Rep F ρ st w) (fun i => pls[i]?) (parts.toList.map fun p => (p.1, a.eval p.2)) qs zv.cells (zv.cells.toList.map .sc) cs h1 h2 (by simp) (fun u hu => by
          obtain ⟨j, hj, rfl⟩ := Array.mem_iff_getElem.1 hu
          exact hone j hj) (fun j v x hv hx => by
          simp at hx
          rw [hv] at hx
          simp at hx
          subst hx
          exact .sc v) hf
      refine ⟨.agg vs', .ag vs' cs g2 g3 g4, fun w' _ => ?_⟩
      unfold plI at hT
      split at hT
      · rename_i fs hu
        have hpl := run_places (w := w') hT
        have hpl2 : (fs.mapM (fun f => (do pure (f.offset, ← sizeOf f.type) : Sem (Nat × Nat)))).run P w' = .ok pls.toArray w' := by
          rw [Array.mapM_eq_mapM_toList]
          show Sem.run P (fs.toList.mapM (fun f => (do pure (f.offset, ← sizeOf f.type) : Sem (Nat × Nat))) >>= fun l => pure l.toArray) w' = _
          rw [Sem.run_bind, hpl]
          rfl
        have e : (parts.map fun (i, x) => (i, a.eval x)).toList = parts.toList.map fun p => (p.1, a.eval p.2) := by simp
        simp only [execOp, ho, Instr.build, zeroValue, typeInfo, Sem.run_bind]
        simp only [run_program, hi, hzz, Sem.run_bind, Sem.run_pure, Result.andThen_ok, run_underlying hu, hpl2, e]
        have e2 : (fun i : Nat => (pls.toArray)[i]?) = fun i : Nat => pls[i]? := by funext i; simp
        simp only [e2, g1, Sem.run_pure, Result.andThen_ok]
      cases hT
theorem op_make0 {T e sz by_ n : Nat} {lo co : Operand} {kl kc : IntKind} {C : Int} (k : Nat) {tk : TK} (ho : o.op = .makeSlice T lo co) (hT : apI P T = some (e, sz, by_)) (hl : evV t lo = some (.int kl 0)) (hc : evV t co = some (.int kc C)) (hC : C = (n : Int)) (hn : by_ * n ≤ 281474976710656) (hm' : n ≤ 9223372036854775807) (hk : st[k]? = some tk)
    (h : K (.ow k (tk.g + 1)) (st.set k ⟨tk.g + 1, .own e sz []⟩)) : AOpB P o t st K := fun F ρ w0 w a hst hm next Q hnx => by
  obtain ⟨hu, hpos, i, z, hi, hz0, hz1, hz2, hz⟩ := ap_parts hT
  subst hC
  obtain ⟨w', hrun, hown, hg⟩ := run_make_own (P := P) w 0 T e i z sz hu hi hz0 hz1 kl kc n (by rw [hz2]; exact hn) (by unfold maxLen; exact hm') (Nat.zero_le _)
  obtain ⟨ρ', hρ, hs', hmv⟩ := hst.regrow (row := none) hk (fun b e => by cases e) hg (.inr rfl) (hown.lt _ rfl).2 e sz n [] ⟨[], hown, hpos, by simp, fun i cs h => by simp at h, fun i j cs v z h => by simp at h⟩
  have hrun2 : (execOp a.eval o).run P w = .ok (.value (.slice (some ⟨w.heap.size, 0, none⟩) 0 n)) w' := by
    simp only [execOp, ho, hm.val hl, hm.val hc, Sem.run_bind, hrun, Result.andThen_ok, Sem.run_pure]
  unfold Oper.wp
  rw [hrun2]
  have hk2 : (st.set k ⟨tk.g + 1, .own e sz []⟩)[k]? = some ⟨tk.g + 1, .own e sz []⟩ := by rw [List.getElem?_set_self (List.getElem?_eq_some_iff.1 hk).1]
  have hrep := Rep.ow (F := F) (ρ := ρ') (w := w') k (tk.g + 1) e sz [] hk2
  rw [hρ] at hrep
  exact hnx _ w' ρ' _ _ hs' hmv hrep (below_of_grown hg) h
theorem AL.nil_own {ops : Array Oper} {K : List AV → List TK → Prop} {l : List Oper} (d k : Nat) {tk : TK} (el sz : Nat) (hd : evA t (.tmp d) = .sc (.slice none 0 0)) (hk : st[k]? = some tk) (h : AL P ops K l (t.set d (.ow k (tk.g + 1))) (st.set k ⟨tk.g + 1, .nown el sz⟩)) : AL P ops K l t st := fun F ρ w0 w a hs hm => by
  have hklt := (List.getElem?_eq_some_iff.1 hk).1
  have hmv : Mv F ρ st w ρ (st.set k ⟨tk.g + 1, .nown el sz⟩) w := Mv.upd hk (fun _ _ => rfl) (fun b o hf ho => ⟨fun h => h, ho⟩) (.inr (.inl (Nat.lt_succ_self _)))
  have hs' : St F ρ (st.set k ⟨tk.g + 1, .nown el sz⟩) w0 w := hs.upd hk (fun _ _ => rfl) hs.below (Nat.le_refl _) hmv (fun _ _ _ _ _ _ => rfl) (fun b hf => hf.elim) (fun j q b hj hq hf hf' => hf') (fun ty cs e => by cases e) (fun el' sz' xs' e => by cases e) (fun p e => by cases e)
  refine h F ρ w0 w a hs' ?_
  have hm' := hm.mv hmv
  have hval : a.eval (.tmp d) = .slice none 0 0 := by have := hm.ev (.tmp d); rw [hd] at this; exact this.of_sc
  refine ⟨hm'.defers, by simp [hm'.size], fun i v x hv hx => ?_⟩; rw [List.getElem?_set] at hx
  split at hx
  · rename_i e
    subst e
    split at hx
    · injection hx with hx
      subst hx
      have : v = .slice none 0 0 := by
        rw [← hval]
        simp [Act.eval, hv]
      subst this
      exact .ow0 k _ el sz (by rw [List.getElem?_set_self hklt])
    cases hx
  exact hm'.rep i v x hv hx
theorem RepS.of_sc {F : Nat → Prop} {w : World} {v u : Value} (h : RepS F w v (.sc u)) : v = u := by cases h; rfl
def byA (l : List UInt8) : List (List AV) := l.map fun b => [.sc (bv b)]
theorem str_cells {w : World} {A : Option Addr} {c : Nat} {l : List UInt8} (h : 0 < l.length → ∃ b off, A = some ⟨b, off, none⟩ ∧ ∀ (j : Nat) (v : Value), (bvs l)[j]? = some v → w.cell? ⟨b, off + j, none⟩ = some v) {src dst e : TypeId} (hs : P.underlying src = some (.slice e)) (he : P.underlying e = some (.int .u8)) (hd : P.underlying dst = some .string) :
    (convert src dst (.slice A l.length c)).run P w = .ok (sv l) w := by
  rw [run_convert_bytes_string w _ _ _ A l.length c hs he hd]
  have e' : bvs l = (l.map fun b => ((b.toNat : Nat) : Int)).map (Value.int .u8) := by simp [bvs, bv]
  have fold : ∀ (l : List UInt8) (s : ByteArray), (l.map fun b => ((b.toNat : Nat) : Int)).foldl (fun r n => r.push (UInt8.ofNat n.toNat)) s = ⟨s.data ++ l.toArray⟩ := by
    intro l
    induction l with
    | nil => intro s; simp
    | cons b l ih =>
      intro s; rw [List.map_cons, List.foldl_cons, ih]
      congr 1
      apply Array.ext'
      simp [ByteArray.push]
  rcases Nat.eq_zero_or_pos l.length with h0 | h0
  · have hl : l = [] := List.eq_nil_of_length_eq_zero h0
    subst hl
    cases A with
    | none => simp [Conv.bytesToString]; rfl
    | some ad =>
      show Sem.run P (Conv.bytesToString (.slice (some ad) 0 c)) w = _
      rw [run_bytesToString w ad 0 c [] (by simp [loadCells, loadCellsFrom])]
      rfl
  obtain ⟨b, off, rfl, hc⟩ := h h0
  have hload := run_loadCells_list (P := P) w ⟨b, off, none⟩ (bvs l) (fun j v hv => by rw [Addr.add_mid]; exact hc j v hv)
  rw [bvs_len] at hload
  rw [run_bytesToString w _ l.length c _ (by rw [← e']; exact hload), fold]
  rw [show ByteArray.empty.data = #[] from rfl, Array.empty_append]
def b2s (P : Program) (src dst : TypeId) : Bool := match P.underlying src, P.underlying dst with
  | some (.slice e), some .string => match P.underlying e with | some (.int .u8) => true | _ => false
  | _, _ => false
theorem b2s_parts {src dst : TypeId} (h : b2s P src dst = true) : ∃ e, P.underlying src = some (.slice e) ∧ P.underlying e = some (.int .u8) ∧ P.underlying dst = some .string := by
  unfold b2s at h
  split at h
  · rename_i e h1 h2
    split at h
    · rename_i h3; exact ⟨e, h1, h3, h2⟩
    cases h
  cases h
theorem rd_b2s {src dst : TypeId} {l : List UInt8} (ho : o.op = .convert src dst x) (hT : b2s P src dst = true) (hx : Src t st x 1 (byA l)) : ARd P o t st (.sc (sv l)) := fun F ρ w0 w a hs hm => ⟨_, .sc _, fun w' hb => by
  obtain ⟨e, h1, h2, h3⟩ := b2s_parts hT
  obtain ⟨A, c, news, he, hn1, hn2, hn3, hn4, hn5, hn6⟩ := hx F ρ w0 w a hs hm
  have hlen : (byA l).length = l.length := by simp [byA]
  rw [hlen] at he hn1
  have hnews : news = bvs l := by
    apply List.ext_getElem?
    intro j
    rcases Nat.lt_or_ge j l.length with hj | hj
    · have hj' : j < news.length := by omega
      have h4 := hn3 j 0 [.sc (bv l[j])] news[j] (.sc (bv l[j])) (by simp [byA, hj]) rfl (by rw [Nat.mul_one, Nat.add_zero]; exact List.getElem?_eq_getElem hj')
      rw [List.getElem?_eq_getElem hj']
      rw [h4.of_sc]
      simp [bvs, hj]
    rw [List.getElem?_eq_none (by omega), List.getElem?_eq_none (by rw [bvs_len]; omega)]
  subst hnews
  have hrun := str_cells (P := P) (w := w') (A := A) (c := c) (l := l) (fun h0 => by
    cases A with
    | none => have := hn5 rfl; simp [byA] at this; subst this; simp at h0
    | some ad =>
      obtain ⟨b, off, e1, _⟩ := hn6 0 (bv (l[0]'h0)) (by simp [bvs, h0])
      refine ⟨b, off, e1, fun j v hj => ?_⟩; obtain ⟨b2, off2, e2, hc⟩ := hn6 j v hj; rw [e1] at e2
      injection e2 with e2
      injection e2 with e3 e4
      subst e3 e4
      rw [hb.cell (p := ⟨b, off + j, none⟩) (block_lt_of_cell hc), hc]) h1 h2 h3
  simp only [execOp, ho, he, Sem.run_bind, hrun, Result.andThen_ok, Sem.run_pure]⟩
end
theorem flat_get {sz : Nat} : ∀ (xs : List (List AV)), (∀ cs ∈ xs, cs.length = sz) → ∀ (i j : Nat) (cs : List AV) z, xs[i]? = some cs → cs[j]? = some z → xs.flatten[i * sz + j]? = some z
  | [], _, i, j, cs, z, h, _ => by simp at h
  | x :: xs, hl, 0, j, cs, z, h, hz => by
    simp at h
    subst h
    rw [Nat.zero_mul, Nat.zero_add, List.flatten_cons, List.getElem?_append_left (List.getElem?_eq_some_iff.1 hz).1]
    exact hz
  | x :: xs, hl, i + 1, j, cs, z, h, hz => by
    have hx := hl x List.mem_cons_self
    rw [List.flatten_cons, List.getElem?_append_right (by rw [hx, Nat.add_mul, Nat.one_mul]; omega), hx, show (i + 1) * sz + j - sz = i * sz + j by rw [Nat.add_mul, Nat.one_mul]; omega]
    exact flat_get xs (fun c hc => hl c (List.mem_cons_of_mem _ hc)) i j cs z (by simpa using h) hz
theorem flat_len {sz : Nat} : ∀ (xs : List (List AV)), (∀ cs ∈ xs, cs.length = sz) → xs.flatten.length = xs.length * sz
  | [], _ => by simp
  | x :: xs, hl => by
    rw [List.flatten_cons, List.length_append, hl x List.mem_cons_self, flat_len xs (fun c hc => hl c (List.mem_cons_of_mem _ hc)), List.length_cons, Nat.add_mul, Nat.one_mul, Nat.add_comm]
def setd : List (List AV) → Option (List (List AV))
  | [] => some []
  | cs :: xs => match args1 cs, setd xs with | some ys, some zs => some (ys :: zs) | _, _ => none
theorem setd_get : ∀ (xs ys : List (List AV)), setd xs = some ys → xs.length = ys.length ∧ ∀ (i : Nat) (c d : List AV), xs[i]? = some c → ys[i]? = some d → args1 c = some d
  | [], ys, h => by simp [setd] at h; subst h; simp
  | c :: xs, ys, h => by
    simp only [setd] at h
    cases h1 : args1 c with
    | none => rw [h1] at h; cases h
    | some d =>
      cases h2 : setd xs with
      | none => rw [h1, h2] at h; cases h
      | some zs =>
        rw [h1, h2] at h
        injection h with h
        subst h
        obtain ⟨h3, h4⟩ := setd_get xs zs h2
        refine ⟨by simp [h3], fun i c' d' hc hd => ?_⟩
        cases i with
        | zero => simp at hc hd; subst hc hd; exact h1
        | succ i => exact h4 i c' d' (by simpa using hc) (by simpa using hd)
section
variable {P : Program} {o : Oper} {t : List AV} {st : List TK} {x y s : Operand} {K : AV → List TK → Prop}
theorem bslice_run {T e sz by_ n : Nat} {parts : Array (Nat × Operand)} {qs : List (Nat × List AV)} {xs ys : List (List AV)} {zl : List Value} (ho : o.op = .buildSlice T n parts) (hT : apI P T = some (e, sz, by_)) (hz : zeroC P e = some zl) (hq : partsA t st parts.toList = some qs) (hf : fillA (fun i => some (i * sz, sz)) (List.replicate (n * sz) .any) qs = some xs.flatten)
    (hn : xs.length = n) (hl : ∀ cs ∈ xs, cs.length = sz) (hsd : setd xs = some ys) (hsz : n * sz ≤ 16777216) {F : Nat → Prop} {ρ : Loc} {w0 : Bs} {w : World} {a : Act} (hst : St F ρ st w0 w) (hm : Fm F ρ st w a t) :
    ∃ C : Array Value, (execOp a.eval o).run P w = .ok (.value (.slice (some ⟨w.heap.size, 0, none⟩) n n)) (w.alloc (.cells C e)) ∧ C.size = n * sz ∧ (∀ v ∈ C, v.oneCell' = true) ∧ ys.length = n ∧ (∀ cs ∈ ys, cs.length = sz) ∧ ∀ (i j : Nat) (cs : List AV) v z, ys[i]? = some cs → cs[j]? = some z → C[i * sz + j]? = some v → RepS (Free F ρ st) w v z := by
  obtain ⟨hu, hpos, i, zv, hi, hz0, hz1, hz2, hzs⟩ := ap_parts hT
  obtain ⟨h1, h2⟩ := parts_rep hm parts.toList qs hq
  have hone : ∀ v ∈ zv.cells, v.oneCell' = true := by
    unfold zeroC at hz
    rw [hi] at hz
    simp [hz0] at hz
    intro v hv; obtain ⟨j, hj, rfl⟩ := Array.mem_iff_getElem.1 hv; exact hz.1 j hj
  let zero : Array Value := if n * sz = 0 then #[] else zv.cells
  let base : Array Value := (Array.range (n * sz)).map (zero[· % zero.size]!)
  have hbs : base.size = n * sz := by simp [base]
  have hb1 : ∀ v ∈ base, v.oneCell' = true := by
    intro v hv; simp [base] at hv; obtain ⟨q, hq1, rfl⟩ := hv
    have h0 : ¬ n * sz = 0 := by omega
    have hlt : q % zv.cells.size < zv.cells.size := Nat.mod_lt _ (by omega)
    have : zero[q % zero.size]! = zv.cells[q % zv.cells.size] := by simp only [zero, if_neg h0]; rw [getElem!_pos zv.cells _ hlt]
    rw [this]
    exact hone _ (Array.getElem_mem hlt)
  obtain ⟨C, g1, g2, g3, g4⟩ := fill_rel (R := Rep F ρ st w) (fun i => some (i * sz, sz)) (parts.toList.map fun p => (p.1, a.eval p.2)) qs base (List.replicate (n * sz) .any) xs.flatten h1 h2 (by rw [hbs, List.length_replicate]) hb1 (fun j v x hv hx => by rw [List.eq_of_mem_replicate (List.mem_of_getElem? hx)]; exact .any v) hf
  obtain ⟨s1, s2⟩ := setd_get xs ys hsd
  have back : ∀ (i : Nat) (d : List AV), ys[i]? = some d → ∃ c, xs[i]? = some c ∧ args1 c = some d := fun i d hd => by
    have hi : i < xs.length := by rw [s1]; exact (List.getElem?_eq_some_iff.1 hd).1
    exact ⟨xs[i], List.getElem?_eq_getElem hi, s2 i _ d (List.getElem?_eq_getElem hi) hd⟩
  refine ⟨C, ?_, by rw [g2, flat_len xs hl, hn], g3, by rw [← s1, hn], fun d hd => ?_, fun i j cs v z hi hj hv => ?_⟩
  · have e1 : (parts.map fun (i, x) => (i, a.eval x)).toList = parts.toList.map fun p => (p.1, a.eval p.2) := by simp
    simp only [execOp, ho, Instr.buildSlice, Sem.run_bind, run_underlying hu, Result.andThen_ok, sizeOf, typeInfo, run_program, hi, Sem.run_pure, hz1]
    rw [if_neg (by omega)]
    simp only [Sem.run_pure, Result.andThen_ok, Sem.run_bind, e1]
    by_cases h0 : n * sz = 0
    · have g1' : Instr.fill (fun i => some (i * sz, sz)) (Array.map (fun x => (#[] : Array Value)[x % (#[] : Array Value).size]!) (Array.range (n * sz))) (List.map (fun p => (p.fst, a.eval p.snd)) parts.toList) = some C := by
        have := g1
        simp only [base, zero, if_pos h0] at this
        exact this
      rw [if_pos h0]
      simp only [Sem.run_bind, Sem.run_pure, Result.andThen_ok, g1', newRow, newObj]
      rfl
    have g1' : Instr.fill (fun i => some (i * sz, sz)) (Array.map (fun x => zv.cells[x % zv.cells.size]!) (Array.range (n * sz))) (List.map (fun p => (p.fst, a.eval p.snd)) parts.toList) = some C := by
      have := g1
      simp only [base, zero, if_neg h0] at this
      exact this
    rw [if_neg h0]
    simp only [Sem.run_bind, Sem.run_pure, Result.andThen_ok, zeroValue, typeInfo, run_program, hi, hz0, g1', newRow, newObj]
    rfl
  · obtain ⟨i, hi, rfl⟩ := List.getElem_of_mem hd
    obtain ⟨c, hc, ha⟩ := back i _ (List.getElem?_eq_getElem hi)
    rw [← (args1_get c _ ha).1]
    exact hl c (List.mem_of_getElem? hc)
  obtain ⟨c, hc, ha⟩ := back i cs hi
  obtain ⟨a1, a2⟩ := args1_get c cs ha
  have hj' : j < c.length := by rw [a1]; exact (List.getElem?_eq_some_iff.1 hj).1
  have hz' := flat_get xs hl i j c c[j] hc (List.getElem?_eq_getElem hj')
  exact arg1_rep (g4 _ v _ hv hz') (a2 j _ z (List.getElem?_eq_getElem hj') hj)
theorem bslice_own {n sz e : Nat} {xs : List (List AV)} {C : Array Value} {F : Nat → Prop} {ρ : Loc} {w0 : Bs} {w : World} (hst : St F ρ st w0 w) (hpos : 0 < sz) (hn : xs.length = n) (hl : ∀ cs ∈ xs, cs.length = sz) (hsz : n * sz ≤ 16777216) (h1 : C.size = n * sz) (h2 : ∀ v ∈ C, v.oneCell' = true) (h3 : ∀ (i j : Nat) (cs : List AV) v z, xs[i]? = some cs → cs[j]? = some z → C[i * sz + j]? = some v → RepS (Free F ρ st) w v z) :
    RepO (Free F ρ st) w.heap.size (w.alloc (.cells C e)) w.heap.size n e sz xs := by
  have hle : n ≤ n * sz := Nat.le_mul_of_pos_right _ hpos
  have := World.ownsRow_lit (base := w.heap.size) (e := e) (size := sz) w C n (Nat.le_refl _) (by unfold maxLen; omega) h1
  refine ⟨C.toList, by rw [hn]; exact this, hpos, fun v hv => h2 v (by simpa using hv), fun i cs hc => hl cs (List.mem_of_getElem? hc), fun i j cs v z hi hj hv => ?_⟩; exact (h3 i j cs v z hi hj (by simpa using hv)).mv fun b ob hf ho => ⟨⟨hf, by have := (Array.getElem?_eq_some_iff.1 ho).1; omega⟩, (Below.heap_alloc w _ b (Array.getElem?_eq_some_iff.1 ho).1).trans ho⟩
theorem op_bslice {T e sz by_ n : Nat} {parts : Array (Nat × Operand)} {qs : List (Nat × List AV)} (xs : List (List AV)) {ys : List (List AV)} {zl : List Value} (ho : o.op = .buildSlice T n parts) (hT : apI P T = some (e, sz, by_)) (hz : zeroC P e = some zl) (hq : partsA t st parts.toList = some qs) (hf : fillA (fun i => some (i * sz, sz)) (List.replicate (n * sz) .any) qs = some xs.flatten)
    (hn : xs.length = n) (hl : ∀ cs ∈ xs, cs.length = sz) (hsd : setd xs = some ys) (hsz : n * sz ≤ 16777216) (h : K (.sl ys) st) : AOpB P o t st K := fun F ρ w0 w a hst hm next Q hnx => by
  obtain ⟨C, hrun, h1, h2, hn, hl, h3⟩ := bslice_run ho hT hz hq hf hn hl hsd hsz hst hm
  have hb : Below w.heap.size w (w.alloc (.cells C e)) := (Below.refl _ _).alloc (Nat.le_refl _) _
  have hO := bslice_own (e := e) hst (ap_parts hT).2.1 hn hl hsz h1 h2 h3
  unfold Oper.wp
  rw [hrun]
  have hsl := hO.sl (hst.free_new (Nat.le_refl _))
  rw [hn] at hsl
  exact hnx _ _ ρ st _ (hst.grow hb) (Mv.below hb) (.s hsl) hb h
theorem op_bslice_own {T e sz by_ n : Nat} {parts : Array (Nat × Operand)} {qs : List (Nat × List AV)} (k : Nat) {tk : TK} (xs : List (List AV)) {ys : List (List AV)} {zl : List Value} (ho : o.op = .buildSlice T n parts) (hT : apI P T = some (e, sz, by_)) (hz : zeroC P e = some zl) (hq : partsA t st parts.toList = some qs) (hf : fillA (fun i => some (i * sz, sz)) (List.replicate (n * sz) .any) qs = some xs.flatten)
    (hn : xs.length = n) (hl : ∀ cs ∈ xs, cs.length = sz) (hsd : setd xs = some ys) (hsz : n * sz ≤ 16777216) (hk : st[k]? = some tk) (h : K (.ow k (tk.g + 1)) (st.set k ⟨tk.g + 1, .own e sz ys⟩)) : AOpB P o t st K := fun F ρ w0 w a hst hm next Q hnx => by
  obtain ⟨C, hrun, h1, h2, hn, hl, h3⟩ := bslice_run ho hT hz hq hf hn hl hsd hsz hst hm
  have hb : Below w.heap.size w (w.alloc (.cells C e)) := (Below.refl _ _).alloc (Nat.le_refl _) _
  obtain ⟨us, a1, a2, a3, a4, a5⟩ := bslice_own (e := e) hst (ap_parts hT).2.1 hn hl hsz h1 h2 h3
  obtain ⟨ρ', hρ, hs', hmv, _⟩ := hst.adopt hb (Nat.le_refl _) (by simp) hk (.own e sz ys) n (fun _ _ e => by cases e) fun el' sz' xs' e => by
    injection e with e1 e2 e3
    subst e1 e2 e3
    refine ⟨us, ⟨a1.1, ?_⟩, a2, a3, a4, a5⟩
    rcases a1.2 with ⟨b1, b2⟩ | ⟨g', cap, cur, b1, b2, b3⟩
    · exact .inl ⟨b1, b2⟩
    exact .inr ⟨g', cap, cur, b1, Nat.zero_le _, b3⟩
  unfold Oper.wp
  rw [hrun]
  have hk2 : (st.set k ⟨tk.g + 1, .own e sz ys⟩)[k]? = some ⟨tk.g + 1, .own e sz ys⟩ := by rw [List.getElem?_set_self (List.getElem?_eq_some_iff.1 hk).1]
  have hrep := Rep.ow (F := F) (ρ := ρ') (w := w.alloc (.cells C e)) k (tk.g + 1) e sz ys hk2
  rw [hρ, hn] at hrep
  exact hnx _ _ ρ' _ _ hs' hmv hrep hb h
end
abbrev Bytes := List UInt8
abbrev AI (n : Int) : AV := .sc (.int .i64 n)
abbrev AB (b : Bool) : AV := .sc (.bool b)
abbrev AS (s : Bytes) : AV := .sc (sv s)
def csS (l : List Bytes) : List (List AV) := l.map fun c => [AS c]
theorem csS_len (l : List Bytes) : (csS l).length = l.length := by simp [csS]
theorem csS_take (l : List Bytes) (k : Nat) : (csS l).take k = csS (l.take k) := by simp [csS, List.map_take]
theorem csS_drop (l : List Bytes) (k : Nat) : (csS l).drop k = csS (l.drop k) := by simp [csS, List.map_drop]
theorem csS_app (l m : List Bytes) : csS l ++ csS m = csS (l ++ m) := by simp [csS]
theorem byA_len (l : Bytes) : (byA l).length = l.length := by simp [byA]
theorem byA_take (l : Bytes) (k : Nat) : (byA l).take k = byA (l.take k) := by simp [byA, List.map_take]
theorem byA_drop (l : Bytes) (k : Nat) : (byA l).drop k = byA (l.drop k) := by simp [byA, List.map_drop]
theorem byA_app (l m : Bytes) : byA l ++ byA m = byA (l ++ m) := by simp [byA]
theorem csS_one {l : List Bytes} : ∀ cs ∈ csS l, cs.length = 1 := by intro cs h; obtain ⟨_, _, rfl⟩ := List.mem_map.1 h; rfl
theorem byA_one {l : Bytes} : ∀ cs ∈ byA l, cs.length = 1 := by intro cs h; obtain ⟨_, _, rfl⟩ := List.mem_map.1 h; rfl
def chunkA : Nat → Nat → List AV → List (List AV)
  | 0, _, _ => []
  | n + 1, sz, cs => cs.take sz :: chunkA n sz (cs.drop sz)
theorem chunk_spec (sz : Nat) : ∀ (n : Nat) (cs : List AV), cs.length = n * sz → (chunkA n sz cs).flatten = cs ∧ (chunkA n sz cs).length = n ∧ ∀ c ∈ chunkA n sz cs, c.length = sz
  | 0, cs, h => by
    rw [Nat.zero_mul] at h
    have : cs = [] := List.eq_nil_of_length_eq_zero h
    subst this
    simp [chunkA]
  | n + 1, cs, h => by
    rw [Nat.add_mul, Nat.one_mul] at h
    obtain ⟨h1, h2, h3⟩ := chunk_spec sz n (cs.drop sz) (by rw [List.length_drop]; omega)
    refine ⟨by rw [chunkA, List.flatten_cons, h1, List.take_append_drop], by rw [chunkA, List.length_cons, h2], fun c hc => ?_⟩; rw [chunkA] at hc
    rcases List.mem_cons.1 hc with rfl | hc
    · rw [List.length_take]; omega
    exact h3 c hc
theorem fillA_len (place : Nat → Option (Nat × Nat)) : ∀ (qs : List (Nat × List AV)) (cs cs' : List AV), fillA place cs qs = some cs' → cs'.length = cs.length
  | [], cs, cs', h => by simp [fillA] at h; subst h; rfl
  | (i, zs) :: qs, cs, cs', h => by
    simp only [fillA] at h
    cases hp : place i with
    | none => rw [hp] at h; cases h
    | some q =>
      obtain ⟨off, size⟩ := q
      rw [hp] at h
      simp only [] at h
      split at h
      · cases h
      rw [fillA_len place qs _ cs' h, splA_len]
section
variable {P : Program} {ops : Array Oper} {K : List AV → List TK → Prop} {l : List Oper} {t : List AV} {st : List TK} {Q : APost} {c : Code}
theorem AL.n {t' : List AV} {st' : List TK} (h : AL P ops K l t' st') (ht : t = t' := by (try simp only [putA, evA, List.getD_cons_zero, List.getD_cons_succ, List.set_cons_zero, List.set_cons_succ, List.length_map, KR, splA, List.map_cons, List.map_nil, List.length_append, List.length_cons, List.length_nil, List.drop_zero, csS_len, csS_take, csS_drop, csS_app, byA_len, byA_take, byA_drop, byA_app, ← List.map_take, ← List.map_drop, ← List.map_append]); (try rfl)) (hs : st = st' := by (try simp only [putA, evA, List.getD_cons_zero, List.getD_cons_succ, List.set_cons_zero, List.set_cons_succ, List.length_map, KR, splA, List.map_cons, List.map_nil, List.length_append, List.length_cons, List.length_nil, List.drop_zero, csS_len, csS_take, csS_drop, csS_app, byA_len, byA_take, byA_drop, byA_app, ← List.map_take, ← List.map_drop, ← List.map_append]); (try rfl)) : AL P ops K l t st := by subst ht hs; exact h
theorem AD.n {fuel : Nat} {listed : Array Bool} {t' : List AV} {st' : List TK} (h : AD P l K fuel listed t' st') (ht : t = t' := by (try simp only [putA, evA, List.getD_cons_zero, List.getD_cons_succ, List.set_cons_zero, List.set_cons_succ, List.length_map, KR, splA, List.map_cons, List.map_nil, List.length_append, List.length_cons, List.length_nil, List.drop_zero, csS_len, csS_take, csS_drop, csS_app, byA_len, byA_take, byA_drop, byA_app, ← List.map_take, ← List.map_drop, ← List.map_append]); (try rfl)) (hs : st = st' := by (try simp only [putA, evA, List.getD_cons_zero, List.getD_cons_succ, List.set_cons_zero, List.set_cons_succ, List.length_map, KR, splA, List.map_cons, List.map_nil, List.length_append, List.length_cons, List.length_nil, List.drop_zero, csS_len, csS_take, csS_drop, csS_app, byA_len, byA_take, byA_drop, byA_app, ← List.map_take, ← List.map_drop, ← List.map_append]); (try rfl)) : AD P l K fuel listed t st := by subst ht hs; exact h
theorem AL.r {o : Oper} {x : AV} {t' : List AV} (h : ARd P o t st x) (hk : AL P ops K l t' st) (ht : putA t o.dst x = t' := by (try simp only [putA, evA, List.getD_cons_zero, List.getD_cons_succ, List.set_cons_zero, List.set_cons_succ, List.length_map, KR, splA, List.map_cons, List.map_nil, List.length_append, List.length_cons, List.length_nil, List.drop_zero, csS_len, csS_take, csS_drop, csS_app, byA_len, byA_take, byA_drop, byA_app, ← List.map_take, ← List.map_drop, ← List.map_append]); (try rfl)) (hg : o.guard = none := by rfl) : AL P ops K (o :: l) t st := by subst ht; exact AL.rd hg h hk
theorem AL.ro {o : Oper} {x : AV} {t' : List AV} {j d : Nat} {b : Bool} (h : ARd P o t st x) (hk : AL P ops K l t' st) (ht : putA t o.dst x = t' := by (try simp only [putA, evA, List.getD_cons_zero, List.getD_cons_succ, List.set_cons_zero, List.set_cons_succ, List.length_map, KR, splA, List.map_cons, List.map_nil, List.length_append, List.length_cons, List.length_nil, List.drop_zero, csS_len, csS_take, csS_drop, csS_app, byA_len, byA_take, byA_drop, byA_app, ← List.map_take, ← List.map_drop, ← List.map_append]); (try rfl)) (hg : o.guard = some (j, b) := by rfl) (hd : (ops[j]?).bind (·.dst) = some d := by rfl) (hb : evA t (.tmp d) = .sc (.bool b) := by rfl) : AL P ops K (o :: l) t st := by subst ht; exact AL.on hg hd hb (AOpB.op (ARd.opB h hk))
theorem AL.rf {o : Oper} {t' : List AV} {j d : Nat} {b c : Bool} (hk : AL P ops K l t' st) (ht : putA t o.dst (.sc undef) = t' := by (try simp only [putA, evA, List.getD_cons_zero, List.getD_cons_succ, List.set_cons_zero, List.set_cons_succ, List.length_map, KR, splA, List.map_cons, List.map_nil, List.length_append, List.length_cons, List.length_nil, List.drop_zero, csS_len, csS_take, csS_drop, csS_app, byA_len, byA_take, byA_drop, byA_app, ← List.map_take, ← List.map_drop, ← List.map_append]); (try rfl)) (hg : o.guard = some (j, b) := by rfl) (hd : (ops[j]?).bind (·.dst) = some d := by rfl) (hb : evA t (.tmp d) = .sc (.bool c) := by rfl) (hne : c = !b := by rfl) : AL P ops K (o :: l) t st := by subst ht; exact AL.off hg hd hb hne hk
theorem AL.ru {o : Oper} {t' : List AV} {j d : Nat} {b : Bool} {v : Value} (hk : AL P ops K l t' st) (ht : putA t o.dst (.sc undef) = t' := by (try simp only [putA, evA, List.getD_cons_zero, List.getD_cons_succ, List.set_cons_zero, List.set_cons_succ, List.length_map, KR, splA, List.map_cons, List.map_nil, List.length_append, List.length_cons, List.length_nil, List.drop_zero, csS_len, csS_take, csS_drop, csS_app, byA_len, byA_take, byA_drop, byA_app, ← List.map_take, ← List.map_drop, ← List.map_append]); (try rfl)) (hg : o.guard = some (j, b) := by rfl) (hd : (ops[j]?).bind (·.dst) = some d := by rfl) (hb : evA t (.tmp d) = .sc v := by rfl) (hv : (match v with | .bool _ => false | _ => true) = true := by rfl) : AL P ops K (o :: l) t st := by subst ht; exact AL.offu hg hd hb hv hk
theorem AD.r {o : Oper} {x : AV} {t' : List AV} {fuel : Nat} {listed : Array Bool} (i : Nat) (hi : l[i]? = some o) (h : ARd P o t st x) (hw : WantA l.toArray o t true) (hk : AD P l K fuel (listed.setIfInBounds i true) t' st) (ht : putA t o.dst x = t' := by (try simp only [putA, evA, List.getD_cons_zero, List.getD_cons_succ, List.set_cons_zero, List.set_cons_succ, List.length_map, KR, splA, List.map_cons, List.map_nil, List.length_append, List.length_cons, List.length_nil, List.drop_zero, csS_len, csS_take, csS_drop, csS_app, byA_len, byA_take, byA_drop, byA_app, ← List.map_take, ← List.map_drop, ← List.map_append]); (try rfl)) (hs : Region.noSelect l.toArray = true := by kernel_rfl) (hf : Region.free .any l.toArray listed i = true := by kernel_rfl) (hr : (Region.ready .any l.toArray listed).contains i = true := by kernel_rfl) : AD P l K (fuel + 1) listed t st := by subst ht; exact AD.take i hi hs hf hr hw h hk
theorem AD.s {o : Oper} {t' : List AV} {fuel : Nat} {listed : Array Bool} (i : Nat) (hi : l[i]? = some o) (hw : WantA l.toArray o t false) (hk : AD P l K fuel (listed.setIfInBounds i true) t' st) (ht : putA t o.dst (.sc undef) = t' := by (try simp only [putA, evA, List.getD_cons_zero, List.getD_cons_succ, List.set_cons_zero, List.set_cons_succ, List.length_map, KR, splA, List.map_cons, List.map_nil, List.length_append, List.length_cons, List.length_nil, List.drop_zero, csS_len, csS_take, csS_drop, csS_app, byA_len, byA_take, byA_drop, byA_app, ← List.map_take, ← List.map_drop, ← List.map_append]); (try rfl)) (hs : Region.noSelect l.toArray = true := by kernel_rfl) (hf : Region.free .any l.toArray listed i = true := by kernel_rfl) (hr : (Region.ready .any l.toArray listed).contains i = true := by kernel_rfl) : AD P l K (fuel + 1) listed t st := by subst ht; exact AD.skip i hi hs hf hr hw hk
variable {o : Oper} {k : AV → List TK → Prop}
theorem bs_set {T e sz by_ n : Nat} {parts : Array (Nat × Operand)} {qs : List (Nat × List AV)} {cs' : List AV} {xs ys : List (List AV)} {zl : List Value} (ho : o.op = .buildSlice T n parts) (hT : apI P T = some (e, sz, by_)) (hz : zeroC P e = some zl) (hq : partsA t st parts.toList = some qs) (hf : fillA (fun i => some (i * sz, sz)) (List.replicate (n * sz) .any) qs = some cs') (h : k (.sl ys) st)
    (hx : chunkA n sz cs' = xs := by (try simp only [chunkA, splA, Nat.reduceMul, List.replicate_succ, List.replicate_zero, List.set_cons_zero, List.set_cons_succ, List.take_succ_cons, List.take_zero, List.drop_succ_cons, List.drop_zero]); (try rfl)) (hsd : setd xs = some ys := by rfl) (hsz : n * sz ≤ 16777216 := by decide) : AOpB P o t st k := by
  subst hx
  have hlen : cs'.length = n * sz := by rw [fillA_len _ _ _ _ hf, List.length_replicate]
  obtain ⟨h1, h2, h3⟩ := chunk_spec sz n cs' hlen
  exact op_bslice _ ho hT hz hq (by rw [h1]; exact hf) h2 h3 hsd hsz h
theorem bs_own {T e sz by_ n : Nat} {parts : Array (Nat × Operand)} {qs : List (Nat × List AV)} {cs' : List AV} {xs ys : List (List AV)} {zl : List Value} (kt : Nat) {tk : TK} (ho : o.op = .buildSlice T n parts) (hT : apI P T = some (e, sz, by_)) (hz : zeroC P e = some zl) (hq : partsA t st parts.toList = some qs) (hf : fillA (fun i => some (i * sz, sz)) (List.replicate (n * sz) .any) qs = some cs') (hk : st[kt]? = some tk) (h : k (.ow kt (tk.g + 1)) (st.set kt ⟨tk.g + 1, .own e sz ys⟩))
    (hx : chunkA n sz cs' = xs := by (try simp only [chunkA, splA, Nat.reduceMul, List.replicate_succ, List.replicate_zero, List.set_cons_zero, List.set_cons_succ, List.take_succ_cons, List.take_zero, List.drop_succ_cons, List.drop_zero]); (try rfl)) (hsd : setd xs = some ys := by rfl) (hsz : n * sz ≤ 16777216 := by decide) : AOpB P o t st k := by
  subst hx
  have hlen : cs'.length = n * sz := by rw [fillA_len _ _ _ _ hf, List.length_replicate]
  obtain ⟨h1, h2, h3⟩ := chunk_spec sz n cs' hlen
  exact op_bslice_own kt _ ho hT hz hq (by rw [h1]; exact hf) h2 h3 hsd hsz hk h
theorem Sk.eq {scr : List Nat} (i : Nat) {x y : TK} {a b : List TK} (e : x = y) (h : Sk scr (i + 1) a b) : Sk scr i (x :: a) (y :: b) := by subst e; exact .same i h
def owN (el sz : Nat) : List (List AV) → TC
  | [] => .nown el sz
  | x :: xs => .own el sz (x :: xs)
def isBo (P : Program) (t : TypeId) : Bool := match P.underlying t with | some .bool => true | _ => false
theorem rd_beql {x y : Operand} {xt yt : TypeId} {a b : Bool} (ho : o.op = .binOp .eql xt x y yt) (hT : isBo P xt = true) (hx : evV t x = some (.bool a)) (hy : evV t y = some (.bool b)) : ARd P o t st (.sc (.bool (a == b))) :=
  rd_bin ho hx hy fun w => by
    have hu : P.underlying xt = some .bool := by unfold isBo at hT; split at hT <;> simp_all
    have h10 : (Op.equalIn 10000 xt (.bool a) (.bool b)).run P w = .ok (a == b) w := run_equalIn_bool (P := P) w 9999 xt a b hu
    simp [eqGuard, binOp, Op.equal, Op.maxDepth, Sem.run_bind, h10]
end
end Go.Proofs.Ytlapcfnmmpbeeaa
