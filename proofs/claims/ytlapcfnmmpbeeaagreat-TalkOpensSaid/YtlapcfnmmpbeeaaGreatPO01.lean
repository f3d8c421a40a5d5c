/- A part of a proof. -/
import Derived.Below
import Derived.ChangeOld
import Derived.Deep.AppendLies
import Derived.Deep.Draws
import Derived.Deep.MidRow
import Derived.Deep.RegionHeld3
import Derived.Handy
import Derived.Lib.Hide
import Derived.Maps.AppendAt
import Derived.OpenShut
import Derived.ProofKit
import Derived.ShutString
import Derived.WalkKit
import Derived.WalkLawsBesides
import Derived.WalkSpells
set_option linter.unusedSimpArgs false
set_option linter.unusedVariables false
namespace Go.Proofs.YtlapcfnmmpbeeaaGreat
open Go.RowKit
def Rd (w : World) (B size : Nat) (A : Option Addr) (n : Nat) (xs : List Value) : Prop :=
  xs.length = n * size ∧ (0 < n → ∃ b off, A = some ⟨b, off, none⟩ ∧ b < B ∧ ∀ j, j < xs.length → w.cell? ⟨b, off + j, none⟩ = xs[j]?)
section
variable {w w' : World} {B B' size n : Nat} {A : Option Addr} {xs : List Value}
theorem Rd.keep (h : Rd w B size A n xs) (hk : ∀ p : Addr, p.block < B → w'.cell? p = w.cell? p) : Rd w' B size A n xs :=
  ⟨h.1, fun hn => by
    obtain ⟨b, off, e, hb, hc⟩ := h.2 hn
    exact ⟨b, off, e, hb, fun j hj => (hk ⟨b, off + j, none⟩ hb).trans (hc j hj)⟩⟩
theorem Rd.more (h : Rd w B size A n xs) (hB : B ≤ B') : Rd w B' size A n xs :=
  ⟨h.1, fun hn => by
    obtain ⟨b, off, e, hb, hc⟩ := h.2 hn
    exact ⟨b, off, e, by omega, hc⟩⟩
theorem Rd.below {C : Nat} (h : Rd w B size A n xs) (hb : Below C w w') (hC : B ≤ C) : Rd w' B size A n xs := h.keep fun _ hp => hb.cell (Nat.lt_of_lt_of_le hp hC)
theorem Rd.take {k : Nat} (h : Rd w B size A n xs) (hk : k ≤ n) : Rd w B size A k (xs.take (k * size)) := by
  have hle : k * size ≤ n * size := Nat.mul_le_mul_right _ hk
  refine ⟨by rw [List.length_take, h.1]; omega, fun hn => ?_⟩; obtain ⟨b, off, e, hb, hc⟩ := h.2 (by omega); refine ⟨b, off, e, hb, fun j hj => ?_⟩; rw [List.length_take] at hj; rw [hc j (by omega), List.getElem?_take, if_pos (by omega)]
theorem Rd.cut {k cap : Nat} (h : Rd w B size A n xs) (hk : k ≤ n) (hc : n ≤ cap) :
    Rd w B size (if cap = k then A else A.map (·.add (k * size))) (n - k) (xs.drop (k * size)) := by
  refine ⟨by rw [List.length_drop, h.1, Nat.sub_mul], fun hn => ?_⟩; obtain ⟨b, off, rfl, hb, hcell⟩ := h.2 (by omega); rw [if_neg (by omega)]; refine ⟨b, off + k * size, ?_, hb, fun j hj => ?_⟩
  · simp only [Option.map_some]
    congr 1
    unfold Addr.add
    split <;> simp_all
  rw [List.length_drop] at hj
  rw [Nat.add_assoc, hcell _ (by omega), List.getElem?_drop]
theorem Rd.of_own {base : Nat} {e : TypeId} {c : Nat} (h : w.ownsRow base e size (.slice A n c) n xs) : Rd w w.heap.size size A n xs := by
  refine ⟨h.1, fun hn => ?_⟩; obtain ⟨g, cap, hv, _, hlt⟩ := h.form hn
  have hA : A = some ⟨g, 0, none⟩ := by injection hv
  subst hA
  refine ⟨g, 0, rfl, hlt, fun j hj => ?_⟩
  have h2 := h.cells (g := g) rfl j xs[j] (List.getElem?_eq_getElem hj)
  rw [List.getElem?_eq_getElem hj, ← h2]
  congr 1
  unfold Addr.add
  split <;> simp_all
theorem Rd.below' (h : Rd w w.heap.size size A n xs) (hb : Below w.heap.size w w') : Rd w' w'.heap.size size A n xs := (h.below hb (Nat.le_refl _)).more hb.size
theorem Rd.len1 (h : Rd w B 1 A n xs) : xs.length = n := by simpa using h.1
end
def bv (b : UInt8) : Value := .int .u8 b.toNat
def bvs (l : List UInt8) : List Value := l.map bv
theorem jDh (l : List UInt8) : (bvs l).length = l.length := by simp [bvs]
theorem jLD (a b : List UInt8) : bvs (a ++ b) = bvs a ++ bvs b := by simp [bvs]
theorem bvs_take (a : List UInt8) (k : Nat) : (bvs a).take k = bvs (a.take k) := by simp [bvs, List.map_take]
theorem bvs_drop (a : List UInt8) (k : Nat) : (bvs a).drop k = bvs (a.drop k) := by simp [bvs, List.map_drop]
theorem bvs_one (l : List UInt8) : ∀ u ∈ bvs l, u.oneCell' = true := by
  intro u hu; obtain ⟨_, _, rfl⟩ := List.mem_map.1 hu; rfl
theorem Rd.laid (w : World) (C : Array Value) (e : TypeId) (fr : Nat × Nat) (n : Nat) (xs : List Value) (hn : xs.length = n) (hx : C.toList = xs) :
    Rd (w.alloc (.cells C e fr)) (w.alloc (.cells C e fr)).heap.size 1 (some ⟨w.heap.size, 0, none⟩) n xs := by
  subst hx
  refine ⟨by simpa using hn, fun _ => ⟨w.heap.size, 0, rfl, by simp, fun j _ => ?_⟩⟩; rw [Nat.zero_add, cell_of_row _ _ _ _ e fr (heap_alloc_new w _)]; simp
theorem Rd.byte {w : World} {B n : Nat} {A : Option Addr} {l : List UInt8} (h : Rd w B 1 A n (bvs l)) {k : Nat} (hk : k < n) :
    ∃ (b off : Nat) (hl : k < l.length), A = some ⟨b, off, none⟩ ∧ b < B ∧ w.cell? ⟨b, off + k, none⟩ = some (.int .u8 (l[k].toNat : Nat)) ∧ l[k].toNat < 256 := by
  have hl : l.length = n := by have := h.len1; rwa [jDh] at this
  obtain ⟨b, off, e, hb, hc⟩ := h.2 (by omega)
  refine ⟨b, off, by omega, e, hb, ?_, UInt8.toNat_lt _⟩; rw [hc k (by rw [jDh]; omega), bvs, List.getElem?_map, List.getElem?_eq_getElem (by omega)]; rfl
theorem Rd.btake {w : World} {B n : Nat} {A : Option Addr} {l : List UInt8} (h : Rd w B 1 A n (bvs l)) {k : Nat} (hk : k ≤ n) : Rd w B 1 A k (bvs (l.take k)) := by
  have := h.take hk
  rwa [Nat.mul_one, bvs_take] at this
theorem Rd.bcut {w : World} {B n cap : Nat} {A : Option Addr} {l : List UInt8} (h : Rd w B 1 A n (bvs l)) {k : Nat} (hk : k ≤ n) (hc : n ≤ cap) :
    Rd w B 1 (if cap = k then A else Option.map (fun x => x.add k) A) (n - k) (bvs (l.drop k)) := by
  have := h.cut hk hc
  rwa [Nat.mul_one, bvs_drop] at this
theorem Rd.blen {w : World} {B n : Nat} {A : Option Addr} {l : List UInt8} (h : Rd w B 1 A n (bvs l)) : l.length = n := by have := h.len1; rwa [jDh] at this
theorem jGD {α β : Type} (f : β → α → β) (s : β) (l : List α) (k : Nat) (h : k < l.length) : (l.take (k + 1)).foldl f s = f ((l.take k).foldl f s) l[k] := by
  rw [List.take_succ_eq_append_getElem h, List.foldl_append]; rfl
theorem jDP {k : IntKind} {a b : Int} (h : a = b) : Ending.returned (.int k a) = .returned (.int k b) := by rw [h]
theorem jFW {k : IntKind} {a b : Int} (h : a = b) : Value.int k a = .int k b := by rw [h]
theorem decT {p : Prop} [Decidable p] (h : p) : decide p = true := by simp [h]
theorem decF {p : Prop} [Decidable p] (h : ¬ p) : decide p = false := by simp [h]
theorem jGm {W w1 : World} (hb : Below W.heap.size W w1) : (∀ b o, b < W.heap.size → w1.cell? ⟨b, o, none⟩ = W.cell? ⟨b, o, none⟩) ∧ (∀ b o, b < W.heap.size → w1.frozen? ⟨b, o, none⟩ = W.frozen? ⟨b, o, none⟩) :=
  ⟨fun b o h => hb.cell (p := ⟨b, o, none⟩) h, fun b o h => hb.frozen (p := ⟨b, o, none⟩) h⟩
set_option maxRecDepth 100000
open Go.RowKit Go.ChangeShapes Go.WideShapes Go.ChangeAt
section
variable {H : Type} {enc : TypeId × Value → H} {P : Program} {W : World} {base b0 : Nat} {sp : Nat → Bool} {held : Bool} {r : Reach}
theorem jLC {n : Int} (h : (Lit.int .u8 n).wf = true) : ∃ b : UInt8, n = (b.toNat : Nat) := by
  have hb := bounds_u8 h
  refine ⟨UInt8.ofNat n.toNat, ?_⟩; rw [UInt8.toNat_ofNat_of_lt' (by show n.toNat < 256; omega)]; omega
theorem jLr {t e : TypeId} (ht : P.underlying t = some (.array 256 e)) (he : P.underlying e = some (.int .u32)) (hce : P.cellsOf e = 1) (hct : P.cellsOf t = 256) {v : Value} {d : DataW H} {p : List MemPlace}
    (hv : Value.okWide P W r b0 t v) (h : DataW.Trod enc P W base sp held t v d p) :
    ∃ f : Nat → Nat, (∀ i, i < 256 → f i < 4294967296) ∧ v = .agg ((List.range 256).map fun i => Value.int .u32 (f i)).toArray := by
  have hv' : ∃ cs, v = .agg cs ∧ cs.size = P.cellsOf t := by
    simp only [Value.okWide, ht] at hv
    obtain ⟨cs, h1, h2, _⟩ := hv
    exact ⟨cs, h1, h2⟩
  obtain ⟨cs, rfl, hsz⟩ := hv'
  obtain ⟨fuel, hf⟩ := h
  obtain ⟨xs, m, _, _, hl, hxl, hi⟩ := DataW.trod_array ht hf
  have key : ∀ i, i < 256 → ∃ z : Nat, z < 4294967296 ∧ cs[i]? = some (.int .u32 (z : Int)) := by
    intro i hi'
    have h1 := hi i hi'
    rw [hce, Nat.mul_one] at h1
    simp only [Value.cells] at h1
    have hx : xs[i]? = some (xs[i]'(by omega)) := List.getElem?_eq_getElem (by omega)
    have hone : (cs.toList.drop i).take 1 = [cs[i]'(by omega)] := by
      rw [List.drop_eq_getElem_cons (by simp; omega)]
      simp
    rw [hone, hx] at h1
    obtain ⟨n, e1, _, wn⟩ := DataW.trod_int he h1
    have hb := bounds_u32 wn
    simp at e1
    refine ⟨n.toNat, by omega, ?_⟩; rw [Array.getElem?_eq_getElem (by omega), e1, show ((n.toNat : Nat) : Int) = n by omega]
  refine ⟨fun i => match cs[i]? with | some (.int .u32 z) => z.toNat | _ => 0, ?_, ?_⟩
  · intro i hi'; obtain ⟨z, hz, hc⟩ := key i hi'; simp only [hc]; omega
  congr 1
  apply Array.ext_getElem?
  intro i
  by_cases hi' : i < 256
  · obtain ⟨z, hz, hc⟩ := key i hi'
    rw [hc]
    simp [hi', hc]
  rw [Array.getElem?_eq_none (by omega), Array.getElem?_eq_none (by simp; omega)]
end
end Go.Proofs.YtlapcfnmmpbeeaaGreat
