/- Texts of the proof of talkPacks_holds, put together by a program: Kit Goto. -/
import Derived.Deep.AppendLies
import Derived.Deep.Draws
import Derived.Deep.MidRow
import Derived.Deep.RegionHeld3
import Derived.Handy
import Derived.Lib.Hide
import Derived.Maps.AppendAt
import Derived.ScopeJumps
import Derived.WalkKit
import Derived.WalkLawsBesides
import Derived.WalkMore
import Derived.WalkSpells
set_option linter.unusedSimpArgs false
set_option linter.unusedVariables false
namespace Go.Proofs.YtlapcfnmmpbeeaaGreat
open Go.RowKit
def Rd (w : World) (B size : Nat) (A : Option Addr) (n : Nat) (xs : List Value) : Prop :=
  xs.length = n * size ∧ (0 < n → ∃ b off, A = some ⟨b, off, none⟩ ∧ b < B ∧ ∀ j, j < xs.length → w.cell? ⟨b, off + j, none⟩ = xs[j]?)
section
variable {w w' : World} {B B' size n : Nat} {A : Option Addr} {xs : List Value}
theorem Rd.keep (h : Rd w B size A n xs) (hk : ∀ p : Addr, p.block < B → w'.cell? p = w.cell? p) : Rd w' B size A n xs :=
  ⟨h.1, fun hn => by
    obtain ⟨b, off, e, hb, hc⟩ := h.2 hn
    exact ⟨b, off, e, hb, fun j hj => (hk ⟨b, off + j, none⟩ hb).trans (hc j hj)⟩⟩
theorem Rd.more (h : Rd w B size A n xs) (hB : B ≤ B') : Rd w B' size A n xs :=
  ⟨h.1, fun hn => by
    obtain ⟨b, off, e, hb, hc⟩ := h.2 hn
    exact ⟨b, off, e, by omega, hc⟩⟩
theorem Rd.below {C : Nat} (h : Rd w B size A n xs) (hb : Below C w w') (hC : B ≤ C) : Rd w' B size A n xs := h.keep fun _ hp => hb.cell (Nat.lt_of_lt_of_le hp hC)
theorem Rd.below' (h : Rd w w.heap.size size A n xs) (hb : Below w.heap.size w w') : Rd w' w'.heap.size size A n xs := (h.below hb (Nat.le_refl _)).more hb.size
theorem Rd.len1 (h : Rd w B 1 A n xs) : xs.length = n := by simpa using h.1
end
def bv (b : UInt8) : Value := .int .u8 b.toNat
def bvs (l : List UInt8) : List Value := l.map bv
theorem bvs_len (l : List UInt8) : (bvs l).length = l.length := by simp [bvs]
theorem bvs_append (a b : List UInt8) : bvs (a ++ b) = bvs a ++ bvs b := by simp [bvs]
theorem bvs_one (l : List UInt8) : ∀ u ∈ bvs l, u.oneCell' = true := by
  intro u hu; obtain ⟨_, _, rfl⟩ := List.mem_map.1 hu; rfl
theorem Rd.laid (w : World) (C : Array Value) (e : TypeId) (fr : Nat × Nat) (n : Nat) (xs : List Value) (hn : xs.length = n) (hx : C.toList = xs) :
    Rd (w.alloc (.cells C e fr)) (w.alloc (.cells C e fr)).heap.size 1 (some ⟨w.heap.size, 0, none⟩) n xs := by
  subst hx
  refine ⟨by simpa using hn, fun _ => ⟨w.heap.size, 0, rfl, by simp, fun j _ => ?_⟩⟩; rw [Nat.zero_add, cell_of_row _ _ _ _ e fr (heap_alloc_new w _)]; simp
theorem Rd.byte {w : World} {B n : Nat} {A : Option Addr} {l : List UInt8} (h : Rd w B 1 A n (bvs l)) {k : Nat} (hk : k < n) :
    ∃ (b off : Nat) (hl : k < l.length), A = some ⟨b, off, none⟩ ∧ b < B ∧ w.cell? ⟨b, off + k, none⟩ = some (.int .u8 (l[k].toNat : Nat)) ∧ l[k].toNat < 256 := by
  have hl : l.length = n := by have := h.len1; rwa [bvs_len] at this
  obtain ⟨b, off, e, hb, hc⟩ := h.2 (by omega)
  refine ⟨b, off, by omega, e, hb, ?_, UInt8.toNat_lt _⟩; rw [hc k (by rw [bvs_len]; omega), bvs, List.getElem?_map, List.getElem?_eq_getElem (by omega)]; rfl
theorem Rd.blen {w : World} {B n : Nat} {A : Option Addr} {l : List UInt8} (h : Rd w B 1 A n (bvs l)) : l.length = n := by have := h.len1; rwa [bvs_len] at this
theorem foldl_snoc_take {α β : Type} (f : β → α → β) (s : β) (l : List α) (k : Nat) (h : k < l.length) : (l.take (k + 1)).foldl f s = f ((l.take k).foldl f s) l[k] := by
  rw [List.take_succ_eq_append_getElem h, List.foldl_append]; rfl
theorem ret_int {k : IntKind} {a b : Int} (h : a = b) : Ending.returned (.int k a) = .returned (.int k b) := by rw [h]
theorem int_eq {k : IntKind} {a b : Int} (h : a = b) : Value.int k a = .int k b := by rw [h]
theorem decT {p : Prop} [Decidable p] (h : p) : decide p = true := by simp [h]
theorem decF {p : Prop} [Decidable p] (h : ¬ p) : decide p = false := by simp [h]
section
variable {P : Program} {Q : Exit → Act → World → Prop}
theorem jump_mono {l : Nat} {J J' : Act → World → Prop} (h : ∀ a w, J a w → J' a w) : ∀ (e : Exit) (a : Act) (w : World), Exit.jump l J Q e a w → Exit.jump l J' Q e a w := fun e a w hh => by
  cases e with
  | goto l' => exact ⟨hh.1, h a w hh.2⟩
  | _ => exact hh
theorem jump_of {l : Nat} {J : Act → World → Prop} : ∀ (e : Exit) (a : Act) (w : World), Q e a w → (∀ l', e ≠ .goto l') → Exit.jump l J Q e a w := fun e a w h hn => by
  cases e with
  | goto l' => exact absurd rfl (hn l')
  | _ => exact h
theorem wp_scope_goto {c tail : Code} {a : Act} {w : World} (l : Nat) (J : Act → World → Prop) (μ : Act → World → Nat) (hf : findLabel c l = some (Code.skip.seq tail))
    (first : ∀ Qv : Exit → Act → World → Prop, Hid (∀ a w, J a w → tail.wp P Qv a w) → Hid (∀ a w, J a w → Qv (.goto l) a w) → Hid (∀ e a w, Q e a w → (∀ l', e ≠ .goto l') → Qv e a w) → c.wp P Qv a w)
    (pass : ∀ a w, J a w → ∀ Qv : Exit → Act → World → Prop, Hid (∀ a' w', J a' w' → μ a' w' < μ a w → Qv (.goto l) a' w') → Hid (∀ e a w, Q e a w → (∀ l', e ≠ .goto l') → Qv e a w) → tail.wp P Qv a w) : (Code.scope c).wp P Q a w :=
  have pass' : ∀ a w, J a w → tail.wp P (Exit.jump l (fun a' w' => J a' w' ∧ μ a' w' < μ a w) Q) a w := fun a w hJ =>
    pass a w hJ _ (fun _ _ h1 h2 => ⟨rfl, h1, h2⟩) jump_of
  wp_scope_jumps l J μ hf (first _ (fun a w hJ => Code.wp_mono (jump_mono fun _ _ h => h.1) (pass' a w hJ)) (fun _ _ h => ⟨rfl, h⟩) jump_of) fun a w hJ => wp_seq (wp_skip (pass' a w hJ))
theorem jgive {a : Act} {lit : (Nat → Value) → Array Value} {R : (Nat → Value) → Prop} (h : a = { tmps := lit fun i => a.tmps.getD i undef, defers := [] }) (hR : R fun i => a.tmps.getD i undef) :
    ∃ u : Nat → Value, a = { tmps := lit u, defers := [] } ∧ R u := ⟨_, h, hR⟩
end
end Go.Proofs.YtlapcfnmmpbeeaaGreat
