/- Texts of the proof of talkRight_holds, put together by a program: PenC ThA PnA PnB OgA OgB OgC FrameP. -/
import Derived.Test.YtlapcfnmmpbeeaaGreatPR30
set_option linter.unusedSimpArgs false
set_option linter.unusedVariables false
namespace Go.Proofs.YtlapcfnmmpbeeaaGreat
set_option maxRecDepth 100000
set_option maxRecDepth 100000
open Go.RowKit
structure RdrD.Of (r s : RdrD) : Prop where
  ok : s.Ok
  b : s.b = r.b
  f : s.f = r.f
theorem RdrD.Of.trans {r s t : RdrD} (h : r.Of s) (k : s.Of t) : r.Of t := ⟨k.ok, k.b.trans h.b, k.f.trans h.f⟩
theorem RdrD.Ok.of {r : RdrD} (h : r.Ok) : r.Of r := ⟨h, rfl, rfl⟩
theorem RdrD.Ok.text {r : RdrD} (h : r.Ok) (most : Int) : r.Of (rtextP r most).2 := by
  obtain ⟨a, b, c, d⟩ := textR_ok h most
  unfold rtextP
  cases hb : badP (textR r most) with
  | true => rw [if_pos rfl]; exact ⟨a, b, c⟩
  | false =>
    rw [if_neg (by decide)]
    obtain ⟨d1, d2, d3⟩ := d hb
    have := a.lo
    exact ⟨⟨a.len, by simp only []; omega, by simp only [b]; exact d3⟩, b, c⟩
section
variable (g : Nat) (r : RdrD)
end
def flagB (x : Bool) : List UInt8 := [if x then 1 else 0]
end Go.Proofs.YtlapcfnmmpbeeaaGreat
namespace Go.Proofs.YtlapcfnmmpbeeaaGreat
set_option maxRecDepth 100000
set_option maxRecDepth 100000
open Go.RowKit
structure VecD where
  a : Int
  b : Int
  c : Int
  d : Int
  e : Int
  f : Int
def vec0 : VecD := ⟨0, 0, 0, 0, 0, 0⟩
structure ThingD where
  kind : Int
  n : Int
  s : Bytes
  f : Bool
  t : TagD
  v : VecD
  r : RefD
  most : Int
def out8 (x : ThingD) : ThingD := ⟨x.kind, 0, [], false, ⟨0, 0⟩, vec0, ⟨0, [], []⟩, x.most⟩
def gText (b : List UInt8) (at_ f most : Int) : Bytes × Int × Bool := if ¬ (getN b at_ f).2.2 = 0 ∨ (getN b at_ f).1 < 0 ∨ most < (getN b at_ f).1 ∨ (b.length : Int) - (getN b at_ f).2.1 < (getN b at_ f).1 then ([], 0, false) else ((b.take ((getN b at_ f).2.1 + (getN b at_ f).1).toNat).drop (getN b at_ f).2.1.toNat, (getN b at_ f).2.1 + (getN b at_ f).1, true)
def rd8 (b : List UInt8) (at_ f : Int) (x : ThingD) : ThingD × Int × Bool :=
  if x.kind = 0 ∨ x.kind = 6 then (if ¬ (getN b at_ f).2.2 = 0 ∨ (x.kind = 6 ∧ ((getN b at_ f).1 < 0 ∨ x.most < (getN b at_ f).1)) then (out8 x, 0, false) else ({ out8 x with n := (getN b at_ f).1 }, (getN b at_ f).2.1, true))
  else if x.kind = 1 then ({ out8 x with s := (gText b at_ f x.most).1 }, (gText b at_ f x.most).2.1, (gText b at_ f x.most).2.2)
  else if x.kind = 2 then (if (b.length : Int) ≤ at_ ∨ 1 < (b.getD at_.toNat 0).toNat then (out8 x, 0, false) else ({ out8 x with f := (b.getD at_.toNat 0).toNat == 1 }, at_ + 1, true))
  else if x.kind = 3 then (if ¬ (getN b at_ f).2.2 = 0 ∨ ¬ (getN b (getN b at_ f).2.1 f).2.2 = 0 then (out8 x, 0, false) else ({ out8 x with t := ⟨(getN b at_ f).1, (getN b (getN b at_ f).2.1 f).1⟩ }, (getN b (getN b at_ f).2.1 f).2.1, true))
  else if x.kind = 5 then (if ¬ (getN b at_ f).2.2 = 0 ∨ (gText b (getN b at_ f).2.1 f 12).2.2 = false ∨ (gText b (gText b (getN b at_ f).2.1 f 12).2.1 f 12).2.2 = false then (out8 x, 0, false) else ({ out8 x with r := ⟨(getN b at_ f).1, (gText b (getN b at_ f).2.1 f 12).1, (gText b (gText b (getN b at_ f).2.1 f 12).2.1 f 12).1⟩ }, (gText b (gText b (getN b at_ f).2.1 f 12).2.1 f 12).2.1, true))
  else (out8 x, 0, false)
section
variable (b : List UInt8) (f : Int) (hb : b.length ≤ 1099511627776)
include hb
end
end Go.Proofs.YtlapcfnmmpbeeaaGreat
namespace Go.Proofs.YtlapcfnmmpbeeaaGreat
set_option maxRecDepth 100000
set_option maxRecDepth 100000
open Go.RowKit
theorem nameB_len {s : Bytes} (h : nameB s = true) : s.length ≤ 12 := by
  unfold nameB at h
  simp only [Bool.and_eq_true, decide_eq_true_eq] at h
  exact h.1.2
theorem placeB_len {r : RefD} (h : placeB r = true) : r.group.length ≤ 12 ∧ r.name.length ≤ 12 := by
  unfold placeB at h
  simp only [Bool.and_eq_true, Bool.or_eq_true, beq_iff_eq] at h
  refine ⟨?_, nameB_len h.1.2⟩
  rcases h.2 with h | h
  · rw [h]; simp
  · exact nameB_len h
theorem tagP_len (f : Int) (t : TagD) : (tagP f t).length ≤ 20 := by
  have := putN_len f t.rep; have := putN_len f t.n
  unfold tagP; rw [List.length_append]; omega
theorem refP_len (f : Int) (r : RefD) : (refP f r).length ≤ 30 + r.group.length + r.name.length := by
  have := putN_len f r.scope; have := textP_len f r.group; have := textP_len f r.name
  unfold refP; simp only [List.length_append]; omega
section
variable {r : RdrD} {f : Int} {pre suf : List UInt8}
theorem bad_num (h : badP r = true) : numP r = (0, r) := by unfold numP; rw [if_pos h]
theorem bad_text (h : badP r = true) {most : Int} (hm : 0 ≤ most) : rtextP r most = ([], r) := by
  have e : textR r most = r := by
    unfold textR leftP
    rw [bad_num h]
    simp only []
    rw [if_pos h, if_neg (by omega)]
  unfold rtextP
  rw [e, if_pos h]
theorem bad_count (h : badP r = true) {most : Int} (hm : 0 ≤ most) : badP (countP r most).2 = true := by
  unfold countP
  rw [bad_num h]
  simp only []
  rw [if_neg (by omega)]
  exact h
theorem bad_ref (h : badP r = true) : badP (rrefP r).2 = true := by
  unfold rrefP
  rw [bad_num h]
  simp only []
  rw [bad_text h (by omega)]
  simp only []
  rw [bad_text h (by omega)]
  simp only []
  rw [if_pos h]; exact h
end
end Go.Proofs.YtlapcfnmmpbeeaaGreat
namespace Go.Proofs.YtlapcfnmmpbeeaaGreat
set_option maxRecDepth 100000
open Go.RowKit
def askT (k m : Int) : ThingD := ⟨k, 0, [], false, ⟨0, 0⟩, vec0, ⟨0, [], []⟩, m⟩
theorem badn {r : RdrD} (h : badP r = true) : badP (numP r).2 = true := by rw [bad_num h]; exact h
theorem badt {r : RdrD} {m : Int} (hm : 0 ≤ m) (h : badP r = true) : badP (rtextP r m).2 = true := by rw [bad_text h hm]; exact h
section
variable {b : List UInt8} {f : Int} (hf : okF f = true) {r : RdrD} {a : Int}
include hf
end
end Go.Proofs.YtlapcfnmmpbeeaaGreat
namespace Go.Proofs.YtlapcfnmmpbeeaaGreat
set_option maxRecDepth 100000
set_option maxRecDepth 100000
open Go.RowKit
def q1 (r : RdrD) : RdrD := (rtagP r).2
def q2 (r : RdrD) : RdrD := (rtagP (q1 r)).2
def q3 (r : RdrD) : RdrD := (numP (q2 r)).2
section
variable {r : RdrD} (h : r.Ok)
include h
end
section
variable (g : Nat) (r : RdrD)
end
end Go.Proofs.YtlapcfnmmpbeeaaGreat
namespace Go.Proofs.YtlapcfnmmpbeeaaGreat
set_option maxRecDepth 100000
set_option maxRecDepth 100000
open Go.RowKit
structure OpD.Wf (o : OpD) : Prop where
  id1 : i64R o.id.rep
  id2 : i64R o.id.n
  sc1 : i64R o.schema.rep
  sc2 : i64R o.schema.n
  time : i64R o.time
  kind : i64R o.kind
  scope : i64R o.at_.scope
  delta : i64R o.delta
  drops : ∀ t ∈ o.drops, i64R t.rep ∧ i64R t.n
structure OpD.Light (o : OpD) : Prop where
  cart : o.cart.length ≤ 200
  item : o.item.length ≤ 200
  group : o.at_.group.length ≤ 200
  name : o.at_.name.length ≤ 200
  text : o.text.length ≤ 200
  drops : o.drops.length ≤ 200
theorem heavyO_light {o : OpD} (h : heavyO o = false) : o.Light := by
  unfold heavyO at h
  simp only [Bool.or_eq_false_iff, decide_eq_false_iff_not] at h
  exact ⟨by omega, by omega, by omega, by omega, by omega, by omega⟩
def po1 (f : Int) (o : OpD) : List UInt8 := tagP f o.id
def po2 (f : Int) (o : OpD) : List UInt8 := po1 f o ++ tagP f o.schema
def po3 (f : Int) (o : OpD) : List UInt8 := po2 f o ++ putN f o.time
def po4 (f : Int) (o : OpD) : List UInt8 := po3 f o ++ textP f o.cart
def po5 (f : Int) (o : OpD) : List UInt8 := po4 f o ++ putN f o.kind
def po6 (f : Int) (o : OpD) : List UInt8 := po5 f o ++ textP f o.item
def po7 (f : Int) (o : OpD) : List UInt8 := po6 f o ++ refP f o.at_
def po8 (f : Int) (o : OpD) : List UInt8 := po7 f o ++ putN f o.delta
def po9 (f : Int) (o : OpD) : List UInt8 := po8 f o ++ flagB o.has
def po10 (f : Int) (o : OpD) : List UInt8 := po9 f o ++ textP f o.text
def po11 (f : Int) (o : OpD) : List UInt8 := po10 f o ++ putN f (o.drops.length : Nat)
def po12 (f : Int) (o : OpD) (k : Nat) : List UInt8 := po11 f o ++ (o.drops.take k).flatMap (tagP f)
def putO (f : Int) (o : OpD) : List UInt8 := po12 f o o.drops.length
end Go.Proofs.YtlapcfnmmpbeeaaGreat
namespace Go.Proofs.YtlapcfnmmpbeeaaGreat
set_option maxRecDepth 100000
open Go.RowKit
section
variable {r : RdrD} {f : Int} {pre suf : List UInt8}
end
theorem right_read {o : OpD} (h : rightO o = true) : o.cart.length ≤ 12 ∧ o.item.length ≤ 12 ∧ (o.at_.group.length ≤ 12 ∧ o.at_.name.length ≤ 12) ∧ o.text.length ≤ 40 ∧ o.drops.length ≤ 60 := by
  rw [← right_same] at h
  unfold rightR plainB at h
  have hn := @nameB_len
  have hp := @placeB_len o.at_
  have hs := @placeB_s o.at_
  have e0 : ∀ l : Bytes, l.isEmpty = true → l.length ≤ 12 := fun l h => by rw [List.isEmpty_iff.1 h]; simp
  have hd : dropsB o = true → o.drops.length ≤ 60 := fun h => by
    unfold dropsB at h
    simp only [Bool.and_eq_true, decide_eq_true_eq] at h
    exact h.1
  have e1 : o.text.isEmpty = true → o.text.length ≤ 40 := fun h => by rw [List.isEmpty_iff.1 h]; simp
  have e2 : o.at_ = ⟨0, [], []⟩ → o.at_.group.length ≤ 12 ∧ o.at_.name.length ≤ 12 := fun h => by rw [h]; simp
  grind
end Go.Proofs.YtlapcfnmmpbeeaaGreat
namespace Go.Proofs.YtlapcfnmmpbeeaaGreat
def frameN (t : Nat → Nat) (b : List UInt8) : List UInt8 := leB 4 b.length ++ (leB 4 (ofN t (leB 4 b.length ++ b)) ++ b)
theorem ofN_lt {t : Nat → Nat} (l : List UInt8) : ofN t l < 4294967296 := by unfold ofN; omega
end Go.Proofs.YtlapcfnmmpbeeaaGreat
