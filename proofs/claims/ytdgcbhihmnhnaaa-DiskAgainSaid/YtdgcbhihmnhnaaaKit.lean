/- Kit: a slice that reads as a list of cells, nil let in; small lemmas on worlds and lists that every text of this seat uses. No conditions. -/
import Derived.WalkKit
import Derived.WalkLawsBesides
import Derived.WalkSpells
import Derived.Handy
import Derived.Lib.Hide
import Derived.Maps.AppendAt
import Derived.Deep.AppendLies
import Derived.Deep.Draws
import Derived.Deep.RegionHeld3
import Derived.Deep.MidRow
namespace Go.Proofs.Ytdgcbhihmnhnaaa
set_option linter.unusedSimpArgs false
set_option linter.unusedVariables false
open Go.RowKit

theorem block_of_add' (a : Addr) (n : Nat) : (a.add n).block = a.block := by unfold Addr.add; split <;> rfl

/-- The slice '.slice A n c' holds the cells xs (n elements of size cells each), in a block below B. -/
def Rd (w : World) (B size : Nat) (A : Option Addr) (n : Nat) (xs : List Value) : Prop :=
  xs.length = n * size ∧ (0 < n → ∃ b off, A = some ⟨b, off, none⟩ ∧ b < B ∧ ∀ j, j < xs.length → w.cell? ⟨b, off + j, none⟩ = xs[j]?)

section
variable {w w' : World} {B B' size n : Nat} {A : Option Addr} {xs : List Value}
theorem Rd.none_ : Rd w B size A 0 [] := ⟨by simp, fun h => absurd h (by omega)⟩
theorem Rd.keep (h : Rd w B size A n xs) (hk : ∀ p : Addr, p.block < B → w'.cell? p = w.cell? p) : Rd w' B size A n xs :=
  ⟨h.1, fun hn => by
    obtain ⟨b, off, e, hb, hc⟩ := h.2 hn
    exact ⟨b, off, e, hb, fun j hj => (hk ⟨b, off + j, none⟩ hb).trans (hc j hj)⟩⟩
theorem Rd.more (h : Rd w B size A n xs) (hB : B ≤ B') : Rd w B' size A n xs :=
  ⟨h.1, fun hn => by
    obtain ⟨b, off, e, hb, hc⟩ := h.2 hn
    exact ⟨b, off, e, by omega, hc⟩⟩
theorem Rd.below {C : Nat} (h : Rd w B size A n xs) (hb : Below C w w') (hC : B ≤ C) : Rd w' B size A n xs := h.keep fun _ hp => hb.cell (Nat.lt_of_lt_of_le hp hC)
theorem Rd.drew (h : Rd w B size A n xs) : Rd w.drew B size A n xs := h
theorem Rd.drewN (h : Rd w B size A n xs) (k : Nat) : Rd (w.drewN k) B size A n xs := h
theorem Rd.alloc (h : Rd w B size A n xs) (hB : B ≤ w.heap.size) (o : Obj) : Rd (w.alloc o) B size A n xs := h.keep fun p hp => World.cell?_alloc_lt w o p (by omega)
theorem Rd.setCell (h : Rd w B size A n xs) {p : Addr} (hB : B ≤ p.block) (u : Value) : Rd (w.setCell p u) B size A n xs :=
  h.keep fun q hq => World.cell?_setCell_other w p q u (fun e => by subst e; omega)
theorem Rd.grown (h : Rd w B size A n xs) {row : Option Nat} (hg : w.grownBy w' row) (hB : B ≤ w.heap.size) (hr : ∀ g, row = some g → B ≤ g) : Rd w' B size A n xs :=
  h.keep fun p hp => World.cell?_of_block (hg.block p.block (by omega) (fun e => by have := hr _ e.symm; omega))
theorem Rd.take {k : Nat} (h : Rd w B size A n xs) (hk : k ≤ n) : Rd w B size A k (xs.take (k * size)) := by
  have hle : k * size ≤ n * size := Nat.mul_le_mul_right _ hk
  refine ⟨by rw [List.length_take, h.1]; omega, fun hn => ?_⟩; obtain ⟨b, off, e, hb, hc⟩ := h.2 (by omega); refine ⟨b, off, e, hb, fun j hj => ?_⟩; rw [List.length_take] at hj; rw [hc j (by omega), List.getElem?_take, if_pos (by omega)]
theorem Rd.cut {k cap : Nat} (h : Rd w B size A n xs) (hk : k ≤ n) (hc : n ≤ cap) :
    Rd w B size (if cap = k then A else A.map (·.add (k * size))) (n - k) (xs.drop (k * size)) := by
  refine ⟨by rw [List.length_drop, h.1, Nat.sub_mul], fun hn => ?_⟩; obtain ⟨b, off, rfl, hb, hcell⟩ := h.2 (by omega); rw [if_neg (by omega)]; refine ⟨b, off + k * size, ?_, hb, fun j hj => ?_⟩
  · simp only [Option.map_some]
    congr 1
    unfold Addr.add
    split <;> simp_all
  · rw [List.length_drop] at hj
    rw [Nat.add_assoc, hcell _ (by omega), List.getElem?_drop]
theorem Rd.of_own {base : Nat} {e : TypeId} {c : Nat} (h : w.ownsRow base e size (.slice A n c) n xs) : Rd w w.heap.size size A n xs := by
  refine ⟨h.1, fun hn => ?_⟩; obtain ⟨g, cap, hv, _, hlt⟩ := h.form hn
  have hA : A = some ⟨g, 0, none⟩ := by injection hv
  subst hA
  refine ⟨g, 0, rfl, hlt, fun j hj => ?_⟩
  have h2 := h.cells (g := g) rfl j xs[j] (List.getElem?_eq_getElem hj)
  rw [List.getElem?_eq_getElem hj, ← h2]
  congr 1
  unfold Addr.add
  split <;> simp_all
/-- The same of the world behind a new block, the bound with it. -/
theorem Rd.alloc' (h : Rd w w.heap.size size A n xs) (o : Obj) : Rd (w.alloc o) (w.alloc o).heap.size size A n xs := (h.alloc (Nat.le_refl _) o).more (by simp)
theorem Rd.below' (h : Rd w w.heap.size size A n xs) (hb : Below w.heap.size w w') : Rd w' w'.heap.size size A n xs := (h.below hb (Nat.le_refl _)).more hb.size
theorem Rd.len1 (h : Rd w B 1 A n xs) : xs.length = n := by simpa using h.1
end

/-- A byte as a cell, bytes as cells. -/
def bv (b : UInt8) : Value := .int .u8 b.toNat
def bvs (l : List UInt8) : List Value := l.map bv
theorem bvs_len (l : List UInt8) : (bvs l).length = l.length := by simp [bvs]
theorem bvs_append (a b : List UInt8) : bvs (a ++ b) = bvs a ++ bvs b := by simp [bvs]
theorem bvs_take (a : List UInt8) (k : Nat) : (bvs a).take k = bvs (a.take k) := by simp [bvs, List.map_take]
theorem bvs_drop (a : List UInt8) (k : Nat) : (bvs a).drop k = bvs (a.drop k) := by simp [bvs, List.map_drop]
theorem bvs_one (l : List UInt8) : ∀ u ∈ bvs l, u.oneCell' = true := by
  intro u hu; obtain ⟨_, _, rfl⟩ := List.mem_map.1 hu; rfl

/-- A row that was just laid, whatever its mark. -/
theorem Rd.laid (w : World) (C : Array Value) (e : TypeId) (fr : Nat × Nat) (n : Nat) (xs : List Value) (hn : xs.length = n) (hx : C.toList = xs) :
    Rd (w.alloc (.cells C e fr)) (w.alloc (.cells C e fr)).heap.size 1 (some ⟨w.heap.size, 0, none⟩) n xs := by
  subst hx
  refine ⟨by simpa using hn, fun _ => ⟨w.heap.size, 0, rfl, by simp, fun j _ => ?_⟩⟩; rw [Nat.zero_add, cell_of_row _ _ _ _ e fr (heap_alloc_new w _)]; simp

/-- The byte at k of a slice of bytes, ready for the walk. -/
theorem Rd.byte {w : World} {B n : Nat} {A : Option Addr} {l : List UInt8} (h : Rd w B 1 A n (bvs l)) {k : Nat} (hk : k < n) :
    ∃ (b off : Nat) (hl : k < l.length), A = some ⟨b, off, none⟩ ∧ b < B ∧ w.cell? ⟨b, off + k, none⟩ = some (.int .u8 (l[k].toNat : Nat)) ∧ l[k].toNat < 256 := by
  have hl : l.length = n := by have := h.len1; rwa [bvs_len] at this
  obtain ⟨b, off, e, hb, hc⟩ := h.2 (by omega)
  refine ⟨b, off, by omega, e, hb, ?_, UInt8.toNat_lt _⟩; rw [hc k (by rw [bvs_len]; omega), bvs, List.getElem?_map, List.getElem?_eq_getElem (by omega)]; rfl
theorem Rd.btake {w : World} {B n : Nat} {A : Option Addr} {l : List UInt8} (h : Rd w B 1 A n (bvs l)) {k : Nat} (hk : k ≤ n) : Rd w B 1 A k (bvs (l.take k)) := by
  have := h.take hk
  rwa [Nat.mul_one, bvs_take] at this
theorem Rd.bcut {w : World} {B n cap : Nat} {A : Option Addr} {l : List UInt8} (h : Rd w B 1 A n (bvs l)) {k : Nat} (hk : k ≤ n) (hc : n ≤ cap) :
    Rd w B 1 (if cap = k then A else Option.map (fun x => x.add k) A) (n - k) (bvs (l.drop k)) := by
  have := h.cut hk hc
  rwa [Nat.mul_one, bvs_drop] at this
theorem Rd.blen {w : World} {B n : Nat} {A : Option Addr} {l : List UInt8} (h : Rd w B 1 A n (bvs l)) : l.length = n := by have := h.len1; rwa [bvs_len] at this

theorem foldl_snoc_take {α β : Type} (f : β → α → β) (s : β) (l : List α) (k : Nat) (h : k < l.length) : (l.take (k + 1)).foldl f s = f ((l.take k).foldl f s) l[k] := by
  rw [List.take_succ_eq_append_getElem h, List.foldl_append]; rfl

theorem ret_int {k : IntKind} {a b : Int} (h : a = b) : Ending.returned (.int k a) = .returned (.int k b) := by rw [h]
theorem int_eq {k : IntKind} {a b : Int} (h : a = b) : Value.int k a = .int k b := by rw [h]
theorem nat_int_eq {k : IntKind} {a b : Nat} (h : a = b) : Value.int k (a : Int) = .int k (b : Int) := by rw [h]
theorem below_setRow {B : Nat} {a w : World} (h : Below B a w) {g : Nat} (hg : B ≤ g) (cs : Array Value) : Below B a (w.setRow g cs) :=
  h.trans ⟨rfl, rfl, rfl, by simp, fun k hk => setRow_other w g k cs (by omega)⟩
theorem decT {p : Prop} [Decidable p] (h : p) : decide p = true := by simp [h]
theorem decF {p : Prop} [Decidable p] (h : ¬ p) : decide p = false := by simp [h]
/-- For a region that draws its order, S: cells as they lay, and nothing that was there has turned: over a call that makes memory. -/
theorem held_call {W w w' : World} {g o : Nat} {cs : List Value} (h : w.rangeAt g o cs ∧ Below W.heap.size W w) (hb : Below w.heap.size w w') : w'.rangeAt g o cs ∧ Below W.heap.size W w' :=
  ⟨fun j v hv => (hb.cell (p := ⟨g, o + j, none⟩) (block_lt_of_cell (h.1 j v hv))).trans (h.1 j v hv), h.2.trans (hb.mono h.2.size)⟩
theorem bcell {W w1 : World} (hb : Below W.heap.size W w1) : (∀ b o, b < W.heap.size → w1.cell? ⟨b, o, none⟩ = W.cell? ⟨b, o, none⟩) ∧ (∀ b o, b < W.heap.size → w1.frozen? ⟨b, o, none⟩ = W.frozen? ⟨b, o, none⟩) :=
  ⟨fun b o h => hb.cell (p := ⟨b, o, none⟩) h, fun b o h => hb.frozen (p := ⟨b, o, none⟩) h⟩
end Go.Proofs.Ytdgcbhihmnhnaaa
