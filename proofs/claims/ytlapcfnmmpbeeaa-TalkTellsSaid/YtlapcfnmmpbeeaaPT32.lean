/- A part of a proof. -/
import Derived.Test.YtlapcfnmmpbeeaaPT31
set_option linter.unusedSimpArgs false
set_option linter.unusedVariables false
namespace Go.Proofs.Ytlapcfnmmpbeeaa
set_option maxRecDepth 100000
open Go.RowKit
structure VecD where
  a : Int
  b : Int
  c : Int
  d : Int
  e : Int
  f : Int
def vec0 : VecD := ⟨0, 0, 0, 0, 0, 0⟩
structure ThingD where
  kind : Int
  n : Int
  s : Bytes
  f : Bool
  t : TagD
  v : VecD
  r : RefD
  most : Int
def out8 (x : ThingD) : ThingD := ⟨x.kind, 0, [], false, ⟨0, 0⟩, vec0, ⟨0, [], []⟩, x.most⟩
def gText (b : List UInt8) (at_ f most : Int) : Bytes × Int × Bool := if ¬ (getN b at_ f).2.2 = 0 ∨ (getN b at_ f).1 < 0 ∨ most < (getN b at_ f).1 ∨ (b.length : Int) - (getN b at_ f).2.1 < (getN b at_ f).1 then ([], 0, false) else ((b.take ((getN b at_ f).2.1 + (getN b at_ f).1).toNat).drop (getN b at_ f).2.1.toNat, (getN b at_ f).2.1 + (getN b at_ f).1, true)
def rd8 (b : List UInt8) (at_ f : Int) (x : ThingD) : ThingD × Int × Bool :=
  if x.kind = 0 ∨ x.kind = 6 then (if ¬ (getN b at_ f).2.2 = 0 ∨ (x.kind = 6 ∧ ((getN b at_ f).1 < 0 ∨ x.most < (getN b at_ f).1)) then (out8 x, 0, false) else ({ out8 x with n := (getN b at_ f).1 }, (getN b at_ f).2.1, true))
  else if x.kind = 1 then ({ out8 x with s := (gText b at_ f x.most).1 }, (gText b at_ f x.most).2.1, (gText b at_ f x.most).2.2)
  else if x.kind = 2 then (if (b.length : Int) ≤ at_ ∨ 1 < (b.getD at_.toNat 0).toNat then (out8 x, 0, false) else ({ out8 x with f := (b.getD at_.toNat 0).toNat == 1 }, at_ + 1, true))
  else if x.kind = 3 then (if ¬ (getN b at_ f).2.2 = 0 ∨ ¬ (getN b (getN b at_ f).2.1 f).2.2 = 0 then (out8 x, 0, false) else ({ out8 x with t := ⟨(getN b at_ f).1, (getN b (getN b at_ f).2.1 f).1⟩ }, (getN b (getN b at_ f).2.1 f).2.1, true))
  else if x.kind = 5 then (if ¬ (getN b at_ f).2.2 = 0 ∨ (gText b (getN b at_ f).2.1 f 12).2.2 = false ∨ (gText b (gText b (getN b at_ f).2.1 f 12).2.1 f 12).2.2 = false then (out8 x, 0, false) else ({ out8 x with r := ⟨(getN b at_ f).1, (gText b (getN b at_ f).2.1 f 12).1, (gText b (gText b (getN b at_ f).2.1 f 12).2.1 f 12).1⟩ }, (gText b (gText b (getN b at_ f).2.1 f 12).2.1 f 12).2.1, true))
  else (out8 x, 0, false)
section
variable (b : List UInt8) (f : Int) (hb : b.length ≤ 1099511627776)
include hb
end
set_option maxRecDepth 100000
def askT (k m : Int) : ThingD := ⟨k, 0, [], false, ⟨0, 0⟩, vec0, ⟨0, [], []⟩, m⟩
theorem badn {r : RdrD} (h : badP r = true) : badP (numP r).2 = true := by rw [bad_num h]; exact h
theorem badt {r : RdrD} {m : Int} (hm : 0 ≤ m) (h : badP r = true) : badP (rtextP r m).2 = true := by rw [bad_text h hm]; exact h
structure RdG (b : List UInt8) (f : Int) (r : RdrD) (a : Int) : Prop where
  b : r.b = b
  ff : r.f = f
  at_ : r.at_ = a
  bad : r.bad = false
section
variable {b : List UInt8} {f : Int} (hf : okF f = true) {r : RdrD} {a : Int}
include hf
theorem RdG.nb (h : RdG b f r a) : badP r = false := by unfold badP; rw [h.bad, h.ff, hf]; rfl
theorem rd_num (h : RdG b f r a) : ((getN b a f).2.2 = 0 → (numP r).1 = (getN b a f).1 ∧ RdG b f (numP r).2 (getN b a f).2.1) ∧ (¬ (getN b a f).2.2 = 0 → (numP r).1 = 0 ∧ badP (numP r).2 = true) := by
  have hb := RdG.nb hf h
  unfold numP
  rw [hb, if_neg (by decide), h.b, h.ff, h.at_]
  refine ⟨fun h1 => ?_, fun h1 => ?_⟩
  · rw [if_pos h1]
    exact ⟨rfl, ⟨rfl, rfl, rfl, h.bad⟩⟩
  rw [if_neg h1]
  exact ⟨rfl, rfl⟩
theorem rd_tag (h : RdG b f r a) : ((rd8 b a f (askT 3 0)).2.2 = true → (rtagP r).1 = (rd8 b a f (askT 3 0)).1.t ∧ RdG b f (rtagP r).2 (rd8 b a f (askT 3 0)).2.1) ∧ ((rd8 b a f (askT 3 0)).2.2 = false → badP (rtagP r).2 = true) := by
  obtain ⟨h1, h2⟩ := rd_num hf h
  unfold rd8
  rw [if_neg (by simp [askT]), if_neg (by simp [askT]), if_neg (by simp [askT]), if_pos (by rfl)]
  by_cases hg : (getN b a f).2.2 = 0
  · obtain ⟨h3, h4⟩ := h1 hg
    obtain ⟨k1, k2⟩ := rd_num hf h4
    by_cases hg2 : (getN b (getN b a f).2.1 f).2.2 = 0
    · obtain ⟨k3, k4⟩ := k1 hg2
      rw [if_neg (fun hh => hh.elim (fun h => h hg) (fun h => h hg2))]
      refine ⟨fun _ => ?_, fun h => (by cases h)⟩
      unfold rtagP
      rw [RdG.nb hf k4, if_neg (by decide), h3, k3]
      exact ⟨rfl, k4⟩
    obtain ⟨k3, k4⟩ := k2 hg2
    rw [if_pos (.inr hg2)]
    refine ⟨fun h => (by cases h), fun _ => ?_⟩
    unfold rtagP
    rw [if_pos k4]; exact k4
  obtain ⟨h3, h4⟩ := h2 hg
  rw [if_pos (.inl hg)]
  refine ⟨fun h => (by cases h), fun _ => ?_⟩
  unfold rtagP
  rw [bad_num h4]
  simp only []
  rw [if_pos h4]; exact h4
end
set_option maxRecDepth 100000
def asks20 : List ThingD := [askT 3 0, askT 3 0, askT 0 0, askT 1 12, askT 6 5, askT 1 12, askT 5 0, askT 0 0, askT 2 0, askT 1 40, askT 6 60]
def ask20 (i : Nat) : ThingD := asks20.getD i (askT 0 0)
section
variable (b : List UInt8) (f at0 : Int)
def st8 : Nat → Int
  | 0 => at0
  | k + 1 => (rd8 b (st8 k) f (ask20 k)).2.1
def dst8 : Nat → List TagD × Int × Bool
  | 0 => ([], st8 b f at0 11, true)
  | j + 1 => ((dst8 j).1 ++ [(rd8 b (dst8 j).2.1 f (askT 3 0)).1.t], (rd8 b (dst8 j).2.1 f (askT 3 0)).2.1, (dst8 j).2.2 && (rd8 b (dst8 j).2.1 f (askT 3 0)).2.2)
end
theorem ADB.cut {P : Program} {l : List Oper} {K : List AV → List TK → Prop} {fuel fuel2 : Nat} {listed listed2 : Array Bool} {t t2 : List AV} {st st2 : List TK} (h : ADB P l K fuel2 listed2 t2 st2 → ADB P l K fuel listed t st) (key : ADB P l K fuel2 listed2 t2 st2) : ADB P l K fuel listed t st := h key
theorem ADB.use {P : Program} {l : List Oper} {K : List AV → List TK → Prop} {fuel fuel2 : Nat} {listed listed2 : Array Bool} {t t2 : List AV} {st st2 : List TK} (key : ADB P l K fuel2 listed2 t2 st2) (hf : fuel = fuel2 := by rfl) (hl : listed = listed2 := by kernel_rfl) (ht : t = t2 := by rfl) (hs : st = st2 := by rfl) : ADB P l K fuel listed t st := by
  subst hf hl ht hs
  exact key
end Go.Proofs.Ytlapcfnmmpbeeaa
