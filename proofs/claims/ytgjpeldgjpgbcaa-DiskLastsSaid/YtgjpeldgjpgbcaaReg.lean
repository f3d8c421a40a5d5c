/- Regions that draw their order, of reads and of calls that leave what was there as it was (but for one row): taken in one order. No conditions. -/
import Derived.Test.YtgjpeldgjpgbcaaKit
namespace Go.Proofs.Ytgjpeldgjpgbcaa
set_option linter.unusedSimpArgs false
set_option linter.unusedVariables false
open Go.RowKit
section
variable {P : Program} {ops : Array Oper} {l : List Oper} {Q : Exit → Act → World → Prop} {row : Option Nat}

theorem grown_trans' {a b c : World} (h : a.grownBy b row) (k : b.grownBy c row) : a.grownBy c row :=
  ⟨k.os.trans h.os, k.tape.trans h.tape, k.output.trans h.output, Nat.le_trans h.size k.size, fun i hi hn => (k.block i (Nat.lt_of_lt_of_le hi h.size) hn).trans (h.block i hi hn)⟩
theorem grown_of_below {a b : World} (h : Below a.heap.size a b) : a.grownBy b row := ⟨h.os, h.tape, h.output, h.size, fun i hi _ => h.block i hi⟩
theorem below_of_grown {a b : World} (h : a.grownBy b none) : Below a.heap.size a b := ⟨h.os, h.tape, h.output, h.size, fun i hi => h.block i hi (by simp)⟩
theorem gcell {W w1 : World} (hb : W.grownBy w1 row) : (∀ b o, b < W.heap.size → some b ≠ row → w1.cell? ⟨b, o, none⟩ = W.cell? ⟨b, o, none⟩) ∧ (∀ b o, b < W.heap.size → some b ≠ row → w1.frozen? ⟨b, o, none⟩ = W.frozen? ⟨b, o, none⟩) :=
  ⟨fun b o h hn => World.cell?_of_block (hb.block b h hn), fun b o h hn => World.frozen?_of_block (hb.block b h hn)⟩
theorem bcellD {W w1 : World} (hb : Below W.drew.heap.size W.drew w1) : (∀ b o, b < W.heap.size → w1.cell? ⟨b, o, none⟩ = W.cell? ⟨b, o, none⟩) ∧ (∀ b o, b < W.heap.size → w1.frozen? ⟨b, o, none⟩ = W.frozen? ⟨b, o, none⟩) := bcell (W := W.drew) hb
theorem gcellD {W w1 : World} (hb : W.drew.grownBy w1 row) : (∀ b o, b < W.heap.size → some b ≠ row → w1.cell? ⟨b, o, none⟩ = W.cell? ⟨b, o, none⟩) ∧ (∀ b o, b < W.heap.size → some b ≠ row → w1.frozen? ⟨b, o, none⟩ = W.frozen? ⟨b, o, none⟩) := gcell (W := W.drew) hb
theorem blk_keep {w w' : World} {g : Nat} {o : Obj} (hg : w.heap[g]? = some o) (hb : Below w.heap.size w w') : w'.heap[g]? = some o := by
  rcases Nat.lt_or_ge g w.heap.size with h1 | h1
  · exact (hb.block g h1).trans hg
  · rw [Array.getElem?_eq_none h1] at hg; cases hg

/-- Whatever order is picked, and behind every operation what stood in the world at hand (but for the row) stands as it stood. -/
def RB (P : Program) (ops : Array Oper) (Q : Exit → Act → World → Prop) (row : Option Nat) (fuel : Nat) (listed : Array Bool) (a : Act) (w : World) : Prop :=
  wpAnyH P .any ops (NoPanic Q) (fun w' => w.grownBy w' row) fuel listed a w

theorem rb_weaker {S S' : World → Prop} (h : ∀ w, S' w → S w) : ∀ (fuel : Nat) (listed : Array Bool) (a : Act) (w : World), wpAnyH P .any ops Q S' fuel listed a w → wpAnyH P .any ops Q S fuel listed a w
  | 0, _, _, _, hh => hh
  | fuel + 1, _, _, _, hh => ⟨hh.1, fun i hi => wpOp_mono (fun a' w' h' => ⟨h w' h'.1, rb_weaker h fuel _ a' w' h'.2⟩) (hh.2 i hi)⟩

theorem rb_startg (row : Option Nat) {id : Nat} {a : Act} {w : World} (hm : P.follows .mixedOrders = true) (h : RB P l.toArray Q row l.length (Array.replicate l.length false) a w.drew) : (Code.region id l.toArray true).wp P Q a w :=
  wp_region_noPanic (wp_region_held (S := fun w' => w.drew.grownBy w' row) hm (by
    have e : l.toArray.size = l.length := by simp
    rw [e]
    exact h))
theorem rb_start {id : Nat} {a : Act} {w : World} (hm : P.follows .mixedOrders = true) (h : RB P l.toArray Q none l.length (Array.replicate l.length false) a w.drew) : (Code.region id l.toArray true).wp P Q a w := rb_startg none hm h

theorem rb_takeg (i : Nat) {oi : Oper} {v : Value} {fuel : Nat} {listed : Array Bool} {a : Act} {w : World} (hi : l[i]? = some oi)
    (hs : Region.noSelect l.toArray = true) (hf : Region.free .any l.toArray listed i = true) (hr : (Region.ready .any l.toArray listed).contains i = true)
    (hw : Region.wanted oi (yielded l.toArray a.tmps) = true) (hy : ∀ w', w.grownBy w' row → (execOp a.eval oi).run P w' = .ok (.value v) w')
    (h : RB P l.toArray Q row fuel (listed.setIfInBounds i true) (a.put oi.dst v) w) : RB P l.toArray Q row (fuel + 1) listed a w :=
  wpAnyH_take (by simpa using hi) hs hf hr (fun _ _ _ h => h) (.inl ⟨hw, hy⟩) (World.grownBy.refl _ _) h
theorem rb_take (i : Nat) {oi : Oper} {v : Value} {fuel : Nat} {listed : Array Bool} {a : Act} {w : World} (hi : l[i]? = some oi)
    (hs : Region.noSelect l.toArray = true) (hf : Region.free .any l.toArray listed i = true) (hr : (Region.ready .any l.toArray listed).contains i = true)
    (hw : Region.wanted oi (yielded l.toArray a.tmps) = true) (hy : ∀ w', Below w.heap.size w w' → (execOp a.eval oi).run P w' = .ok (.value v) w')
    (h : RB P l.toArray Q none fuel (listed.setIfInBounds i true) (a.put oi.dst v) w) : RB P l.toArray Q none (fuel + 1) listed a w :=
  rb_takeg i hi hs hf hr hw (fun w' hb => hy w' (below_of_grown hb)) h

theorem rb_skip (i : Nat) {oi : Oper} {fuel : Nat} {listed : Array Bool} {a : Act} {w : World} (hi : l[i]? = some oi)
    (hs : Region.noSelect l.toArray = true) (hf : Region.free .any l.toArray listed i = true) (hr : (Region.ready .any l.toArray listed).contains i = true)
    (hw : Region.wanted oi (yielded l.toArray a.tmps) = false)
    (h : RB P l.toArray Q row fuel (listed.setIfInBounds i true) (a.put oi.dst undef) w) : RB P l.toArray Q row (fuel + 1) listed a w :=
  wpAnyH_take (by simpa using hi) hs hf hr (fun _ _ _ h => h) (.inr ⟨hw, rfl⟩) (World.grownBy.refl _ _) h

theorem rb_moveg (i : Nat) {oi : Oper} {fuel : Nat} {listed : Array Bool} {a : Act} {w : World} (hi : l[i]? = some oi)
    (hr : Region.ready .any l.toArray listed = [i]) (hw : Region.wanted oi (yielded l.toArray a.tmps) = true)
    (h : ∀ K : Act → World → Prop, (∀ a' w', w.grownBy w' row → RB P l.toArray Q row fuel (listed.setIfInBounds i true) a' w' → K a' w') → oi.wp P a w K (NoPanic Q)) : RB P l.toArray Q row (fuel + 1) listed a w := by
  refine wpAnyH_all hr (by simp) fun j hj => ?_
  obtain rfl : j = i := by simpa using hj
  unfold wpOp
  have hi' : l.toArray[j]? = some oi := by simpa using hi
  simp only [hi', hw, if_true]
  exact .inl (h _ fun a' w' hb hk => ⟨hb, rb_weaker (fun _ h' => grown_trans' hb h') _ _ _ _ hk⟩)
theorem rb_move (i : Nat) {oi : Oper} {fuel : Nat} {listed : Array Bool} {a : Act} {w : World} (hi : l[i]? = some oi)
    (hr : Region.ready .any l.toArray listed = [i]) (hw : Region.wanted oi (yielded l.toArray a.tmps) = true)
    (h : ∀ K : Act → World → Prop, (∀ a' w', Below w.heap.size w w' → RB P l.toArray Q row fuel (listed.setIfInBounds i true) a' w' → K a' w') → oi.wp P a w K (NoPanic Q)) : RB P l.toArray Q row (fuel + 1) listed a w :=
  rb_moveg i hi hr hw fun K hK => h K fun a' w' hb hk => hK a' w' (grown_of_below hb) hk

theorem rb_done {fuel : Nat} {listed : Array Bool} {a : Act} {w : World} (hr : Region.ready .any l.toArray listed = []) (h : Q .normal a w) : RB P l.toArray Q row fuel listed a w :=
  wpAnyH_done (Q := NoPanic Q) hr (NoPanic.normal h) _

/-- A whole array out of a block that is known whole, whatever comes behind. -/
theorem rb_take_row (i : Nat) {oi : Oper} {fuel : Nat} {listed : Array Bool} {a : Act} {w : World} (hi : l[i]? = some oi)
    (hs : Region.noSelect l.toArray = true) (hf : Region.free .any l.toArray listed i = true) (hr : (Region.ready .any l.toArray listed).contains i = true)
    (hw : Region.wanted oi (yielded l.toArray a.tmps) = true) (ty : TypeId) (x : Operand) (ho : oi.op = .load ty x) (g : Nat) (hx : a.eval x = .pointer (some ⟨g, 0, none⟩)) (t : TypeId) (cs : Array Value) (fr : Nat × Nat) (d : TypeDesc)
    (hg : w.heap[g]? = some (.cells cs t fr)) (hne : some g ≠ row) (hu : P.underlying ty = some d) (hd : (match d with | .struct _ | .array _ _ => true | _ => false) = true) (hin : (P.info? ty).map (·.size) = some cs.size)
    (h : RB P l.toArray Q row fuel (listed.setIfInBounds i true) (a.put oi.dst (.agg cs)) w) : RB P l.toArray Q row (fuel + 1) listed a w := by
  refine rb_takeg i hi hs hf hr hw (fun w' hb => ?_) h
  have hlt : g < w.heap.size := by
    rcases Nat.lt_or_ge g w.heap.size with h1 | h1
    · exact h1
    · rw [Array.getElem?_eq_none h1] at hg; cases hg
  unfold execOp
  simp only [ho, hx, Instr.loadAt, Instr.sureAddr, Sem.run_bind, Sem.run_pure, Result.andThen_ok, run_loadVar_row w' g t ty cs fr d ((hb.block g hlt hne).trans hg) hu hd hin]
end
end Go.Proofs.Ytgjpeldgjpgbcaa
