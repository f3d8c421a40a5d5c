/- A part of a proof. -/
import Derived.Test.YtlapcfnmmpbeeaaGreatPO30
set_option linter.unusedSimpArgs false
set_option linter.unusedVariables false
namespace Go.Proofs.YtlapcfnmmpbeeaaGreat
set_option maxRecDepth 100000
open Go.RowKit
structure LensD.Wf (x : LensD) : Prop where
  kind : i64R x.kind
  scope : i64R x.at_.scope
  factor : i64R x.factor
  field : x.field.Wf
def pairP (f : Int) (p : PairD) : List UInt8 := jC5 f p.from_ ++ jC5 f p.tQ
def putPr (f : Int) (l : List PairD) (k : Nat) : List UInt8 := putN f (l.length : Nat) ++ (l.take k).flatMap (pairP f)
def px1 (f : Int) (x : LensD) : List UInt8 := putN f x.kind
def px2 (f : Int) (x : LensD) : List UInt8 := px1 f x ++ refP f x.at_
def px3 (f : Int) (x : LensD) : List UInt8 := px2 f x ++ jC5 f x.name
def px4 (f : Int) (x : LensD) : List UInt8 := px3 f x ++ jC5 f x.other
def px5 (f : Int) (x : LensD) : List UInt8 := px4 f x ++ putN f x.factor
def px6 (f : Int) (x : LensD) : List UInt8 := px5 f x ++ putPr f x.forth x.forth.length
def px7 (f : Int) (x : LensD) : List UInt8 := px6 f x ++ putPr f x.back x.back.length
def jFM (k : Int) : Bool := decide (k = 2) || decide (k = 3)
def putX (f : Int) (x : LensD) : List UInt8 := px7 f x ++ if jFM x.kind then putF f x.field else []
def putE (f : Int) (e : EdgeD) : List UInt8 := tagP f e.id ++ tagP f e.par ++ putX f e.lens
theorem hpB_light {l : List PairD} (h : hpB l = false) : l.length ≤ 20 ∧ ∀ p ∈ l, p.from_.length ≤ 200 ∧ p.tQ.length ≤ 200 := by
  refine ⟨hpB_f h, fun p hp => ?_⟩
  unfold hpB at h
  simp only [Bool.or_eq_false_iff, decide_eq_false_iff_not, List.any_eq_false, decide_eq_true_eq] at h
  have := h.2 p hp
  simp only [Bool.or_eq_true, decide_eq_true_eq] at this
  omega
def jCS : Nat → RdrD → List PairD × RdrD
  | 0, r => ([], r)
  | n + 1, r => ((jCS n r).1 ++ [⟨(jAH (jCS n r).2 12).1, (jAH (jAH (jCS n r).2 12).2 12).1⟩], (jAH (jAH (jCS n r).2 12).2 12).2)
def prn (r : RdrD) : Nat := (jAJ r 6).1.toNat
def gprP (r : RdrD) : List PairD × RdrD := jCS (prn r) (jAJ r 6).2
def lx1 (r : RdrD) : RdrD := (numP r).2
def lx2 (r : RdrD) : RdrD := (jCb (lx1 r)).2
def lx3 (r : RdrD) : RdrD := (jAH (lx2 r) 12).2
def lx4 (r : RdrD) : RdrD := (jAH (lx3 r) 40).2
def lx5 (r : RdrD) : RdrD := (numP (lx4 r)).2
def lx6 (r : RdrD) : RdrD := (gprP (lx5 r)).2
def lx7 (r : RdrD) : RdrD := (gprP (lx6 r)).2
def lxF (r : RdrD) : FldD := if jFM (numP r).1 then (getF (lx7 r)).1 else zeroF
def lx8 (r : RdrD) : RdrD := if jFM (numP r).1 then (getF (lx7 r)).2 else lx7 r
def rawX (r : RdrD) : LensD := ⟨(numP r).1, (jCb (lx1 r)).1, (jAH (lx2 r) 12).1, (jAH (lx3 r) 40).1, (numP (lx4 r)).1, lxF r, (gprP (lx5 r)).1, (gprP (lx6 r)).1⟩
def getX (r : RdrD) : LensD × RdrD := if badP (lx8 r) then (zL, lx8 r) else if jB2 (rawX r) then (rawX r, lx8 r) else (zL, jCt (lx8 r))
def zE : EdgeD := ⟨⟨0, 0⟩, ⟨0, 0⟩, zL⟩
def ex1 (r : RdrD) : RdrD := (jBo r).2
def ex2 (r : RdrD) : RdrD := (jBo (ex1 r)).2
def ex3 (r : RdrD) : RdrD := (getX (ex2 r)).2
def rawE (r : RdrD) : EdgeD := ⟨(jBo r).1, (jBo (ex1 r)).1, (getX (ex2 r)).1⟩
def getE (r : RdrD) : EdgeD × RdrD := if badP (ex3 r) then (zE, ex3 r) else if jDE (rawE r) then (rawE r, ex3 r) else (zE, jCt (ex3 r))
theorem jGH {r : RdrD} (h : r.Ok) : ∀ n, r.Of (jCS n r).2 ∧ (jCS n r).1.length = n
  | 0 => ⟨h.of, rfl⟩
  | n + 1 => by
    obtain ⟨a, b⟩ := jGH h n
    exact ⟨(a.trans (a.ok.text 12)).trans ((a.ok.text 12).ok.text 12), by rw [jCS, List.length_append, b]; rfl⟩
section
variable {r : RdrD} (h : r.Ok)
include h
theorem jLN : r.Of (gprP r).2 := (h.count 6).trans (jGH (h.count 6).ok _).1
theorem jKe : r.Of (lx1 r) := h.num
theorem jKK : r.Of (lx2 r) := (jKe h).trans (jKe h).ok.ref
theorem jKb : r.Of (lx3 r) := (jKK h).trans ((jKK h).ok.text 12)
theorem jKS : r.Of (lx4 r) := (jKb h).trans ((jKb h).ok.text 40)
theorem jKc : r.Of (lx5 r) := (jKS h).trans (jKS h).ok.num
theorem jJ6 : r.Of (lx6 r) := (jKc h).trans (jLN (jKc h).ok)
theorem jJe : r.Of (lx7 r) := (jJ6 h).trans (jLN (jJ6 h).ok)
theorem jK7 : r.Of (lx8 r) := by
  unfold lx8
  split
  · exact (jJe h).trans (getF_ok (jJe h).ok)
  exact jJe h
theorem getX_ok : r.Of (getX r).2 := by
  unfold getX
  split
  · exact jK7 h
  split
  · exact jK7 h
  exact (jK7 h).trans (jK7 h).ok.spoil
theorem jMz : r.Of (ex1 r) := h.tag
theorem jDc : r.Of (ex2 r) := (jMz h).trans (jMz h).ok.tag
theorem jKh : r.Of (ex3 r) := (jDc h).trans (getX_ok (jDc h).ok)
theorem jJY : r.Of (getE r).2 := by
  unfold getE
  split
  · exact jKh h
  split
  · exact jKh h
  exact (jKh h).trans (jKh h).ok.spoil
end
theorem jGE {r : RdrD} (h : badP r = true) : ∀ n, badP (jCS n r).2 = true
  | 0 => h
  | n + 1 => badt (by omega) (badt (by omega) (jGE h n))
theorem bad_getF {r : RdrD} (h : badP r = true) : badP (getF r).2 = true := (jJr (.inl (b0 h))).2
theorem jIf {r : RdrD} (h : badP (lx8 r) = true ∨ jB2 (rawX r) = false) : (getX r).1 = zL ∧ badP (getX r).2 = true := by
  unfold getX
  by_cases h1 : badP (lx8 r) = true
  · rw [if_pos h1]; exact ⟨rfl, h1⟩
  rw [if_neg h1, if_neg (by rcases h with h | h <;> simp_all)]
  exact ⟨rfl, rfl⟩
theorem jJS {r : RdrD} (h : badP (ex3 r) = true ∨ jDE (rawE r) = false) : (getE r).1 = zE ∧ badP (getE r).2 = true := by
  unfold getE
  by_cases h1 : badP (ex3 r) = true
  · rw [if_pos h1]; exact ⟨rfl, h1⟩
  rw [if_neg h1, if_neg (by rcases h with h | h <;> simp_all)]
  exact ⟨rfl, rfl⟩
section
variable {r : RdrD}
theorem jL0 (h : badP r = true) : badP (gprP r).2 = true := jGE (jFP h (by omega)) _
theorem lb7 (h : badP (lx7 r) = true) : badP (lx8 r) = true := by
  unfold lx8
  split
  · exact bad_getF h
  exact h
theorem lb6 (h : badP (lx6 r) = true) : badP (lx8 r) = true := lb7 (jL0 h)
theorem lb5 (h : badP (lx5 r) = true) : badP (lx8 r) = true := lb6 (jL0 h)
theorem lb4 (h : badP (lx4 r) = true) : badP (lx8 r) = true := lb5 (badn h)
theorem lb3 (h : badP (lx3 r) = true) : badP (lx8 r) = true := lb4 (badt (by omega) h)
theorem lb2 (h : badP (lx2 r) = true) : badP (lx8 r) = true := lb3 (badt (by omega) h)
theorem lb1 (h : badP (lx1 r) = true) : badP (lx8 r) = true := lb2 (jJR h)
theorem lb0 (h : badP r = true) : badP (lx8 r) = true := lb1 (badn h)
theorem bad_getX (h : badP r = true) : badP (getX r).2 = true := (jIf (.inl (lb0 h))).2
theorem eb2 (h : badP (ex2 r) = true) : badP (ex3 r) = true := bad_getX h
theorem eb1 (h : badP (ex1 r) = true) : badP (ex3 r) = true := eb2 (jDO h)
theorem eb0 (h : badP r = true) : badP (ex3 r) = true := eb1 (jDO h)
theorem jHy (h : badP r = true) : badP (getE r).2 = true := (jJS (.inl (eb0 h))).2
end
theorem jJ5 {t u : List PairD} (h : tabB t u = true) (h' : tabB u t = true) : t.length ≤ 6 ∧ ∀ p ∈ t, p.from_.length ≤ 12 ∧ p.tQ.length ≤ 12 := by
  have key : ∀ {t u : List PairD}, tabB t u = true → t.length ≤ 6 ∧ ∀ i (hi : i < t.length), jBB t[i].from_ = true ∧ (u.map PairD.from_).contains t[i].tQ = true := fun {t u} h => by
    unfold tabB at h
    simp only [Bool.and_eq_true, List.all_eq_true, List.mem_range, decide_eq_true_eq] at h
    refine ⟨by omega, fun i hi => ?_⟩
    have := h.2 i hi
    rw [jFh hi] at this
    simp only [Bool.and_eq_true] at this
    exact ⟨this.1.1, this.2⟩
  obtain ⟨h1, h2⟩ := key h
  obtain ⟨h3, h4⟩ := key h'
  refine ⟨h1, fun p hp => ?_⟩; obtain ⟨i, hi, rfl⟩ := List.getElem_of_mem hp; obtain ⟨a, b⟩ := h2 i hi; rw [List.contains_iff_mem, List.mem_map] at b; obtain ⟨q, hq, e⟩ := b; obtain ⟨j, hj, rfl⟩ := List.getElem_of_mem hq; exact ⟨jDl a, by rw [← e]; exact jDl (h4 j hj).1⟩
theorem jJI {x : LensD} (h : jB2 x = true) : (x.at_.group.length ≤ 12 ∧ x.at_.name.length ≤ 12) ∧ x.name.length ≤ 12 ∧ x.other.length ≤ 40 ∧ (x.forth.length ≤ 6 ∧ ∀ p ∈ x.forth, p.from_.length ≤ 12 ∧ p.tQ.length ≤ 12) ∧ (x.back.length ≤ 6 ∧ ∀ p ∈ x.back, p.from_.length ≤ 12 ∧ p.tQ.length ≤ 12) ∧ (if jFM x.kind then jBk x.field = true else x.field = zeroF) := by
  have htn := @jDl x.name; have hto := @jDl x.other
  have hp := @jGc x.at_
  have ht1 := @jJ5 x.forth x.back; have ht2 := @jJ5 x.back x.forth
  have hk1 := @jIk x.forth x.back x.name; have hk2 := @jIk x.back x.forth x.other
  have e0 : x.forth = [] → x.forth.length ≤ 6 ∧ ∀ p ∈ x.forth, p.from_.length ≤ 12 ∧ p.tQ.length ≤ 12 := fun h => by rw [h]; simp
  have e1 : x.back = [] → x.back.length ≤ 6 ∧ ∀ p ∈ x.back, p.from_.length ≤ 12 ∧ p.tQ.length ≤ 12 := fun h => by rw [h]; simp
  have e2 : x.name = [] → x.name.length ≤ 12 := fun h => by rw [h]; simp
  have e3 : x.other = [] → x.other.length ≤ 40 := fun h => by rw [h]; simp
  have e4 : x.at_ = ⟨0, [], []⟩ → x.at_.group.length ≤ 12 ∧ x.at_.name.length ≤ 12 := fun h => by rw [h]; simp
  rw [← jK0] at h
  unfold jLd jGb at h
  unfold jFM
  by_cases k2 : x.kind = 2 ∨ x.kind = 3
  · rw [if_pos k2] at h
    have e5 : (decide (x.kind = 2) || decide (x.kind = 3)) = true := by simpa using k2
    rw [e5, if_pos rfl]
    simp only [Bool.and_eq_true, decide_eq_true_eq, Bool.not_eq_true', Bool.or_eq_false_iff, decide_eq_false_iff_not, ne_eq, Classical.not_not] at h
    obtain ⟨⟨⟨⟨⟨h1, h2⟩, h3⟩, h4⟩, h5, h6⟩, h7⟩ := h
    exact ⟨e4 h1, e2 h2, e3 h3, e0 h5, e1 h6, h7⟩
  rw [if_neg k2] at h
  have e5 : (decide (x.kind = 2) || decide (x.kind = 3)) = false := by simpa using k2
  rw [e5, if_neg (by decide)]
  split at h
  · cases h
  rename_i h0
  have hz : x.field = zeroF := Classical.byContradiction fun e => h0 (.inr e)
  have hpl := hp (by cases e : jCl x.at_ <;> simp_all)
  refine ⟨hpl, ?_⟩
  split at h
  · simp only [Bool.and_eq_true, decide_eq_true_eq] at h
    obtain ⟨⟨⟨⟨⟨⟨_, h1⟩, h2⟩, h3⟩, h4⟩, _⟩, _⟩ := h
    have := hto (hk2 h2 h4)
    exact ⟨htn (hk1 h1 h3), by omega, ht1 h1 h2, ht2 h2 h1, hz⟩
  split at h
  · cases h
  rename_i h1
  simp only [Bool.or_eq_true, decide_eq_true_eq, not_or, ne_eq, Classical.not_not] at h1
  refine ⟨?_, ?_, e0 h1.1, e1 h1.2, hz⟩
  all_goals grind
structure EdgeD.Wf (e : EdgeD) : Prop where
  id1 : i64R e.id.rep
  id2 : i64R e.id.n
  par1 : i64R e.par.rep
  par2 : i64R e.par.n
  lens : e.lens.Wf
theorem jMM {e : EdgeD} (h : jDE e = true) : jB2 e.lens = true := by
  unfold jDE at h
  simp only [Bool.and_eq_true] at h
  exact h.2
section
variable (b : List UInt8) (f a : Int)
def pz := rd8 b a f (askT 6 6)
def pst : Nat → List PairD × Int × Bool
  | 0 => ([], (pz b f a).2.1, true)
  | j + 1 => ((pst j).1 ++ [⟨(rd8 b (pst j).2.1 f (askT 1 12)).1.s, (rd8 b (rd8 b (pst j).2.1 f (askT 1 12)).2.1 f (askT 1 12)).1.s⟩], (rd8 b (rd8 b (pst j).2.1 f (askT 1 12)).2.1 f (askT 1 12)).2.1, (pst j).2.2 && (rd8 b (pst j).2.1 f (askT 1 12)).2.2 && (rd8 b (rd8 b (pst j).2.1 f (askT 1 12)).2.1 f (askT 1 12)).2.2)
def pzn : Nat := (pz b f a).1.n.toNat
def jFd : List PairD × Int × Bool := if (pz b f a).2.2 = true ∧ (pst b f a (pzn b f a)).2.2 = true then ((pst b f a (pzn b f a)).1, (pst b f a (pzn b f a)).2.1, true) else ([], 0, false)
def ly1 := rd8 b a f (askT 6 10)
def ly2 := rd8 b (ly1 b f a).2.1 f (askT 5 0)
def ly3 := rd8 b (ly2 b f a).2.1 f (askT 1 12)
def ly4 := rd8 b (ly3 b f a).2.1 f (askT 1 40)
def ly5 := rd8 b (ly4 b f a).2.1 f (askT 0 0)
def ly6 := jFd b f (ly5 b f a).2.1
def ly7 := jFd b f (ly6 b f a).2.1
def ly8 : FldD × Int × Bool := if jFM (ly1 b f a).1.n then jDw b f (ly7 b f a).2.1 else (zeroF, (ly7 b f a).2.1, true)
def jFI : LensD := ⟨(ly1 b f a).1.n, (ly2 b f a).1.r, (ly3 b f a).1.s, (ly4 b f a).1.s, (ly5 b f a).1.n, (ly8 b f a).1, (ly6 b f a).1, (ly7 b f a).1⟩
def ok15 : Bool := (ly1 b f a).2.2 && (ly2 b f a).2.2 && (ly3 b f a).2.2 && (ly4 b f a).2.2 && (ly5 b f a).2.2 && (ly6 b f a).2.2 && (ly7 b f a).2.2 && (ly8 b f a).2.2 && jB2 (jFI b f a)
def jAI : LensD × Int × Bool := if ok15 b f a then (jFI b f a, (ly8 b f a).2.1, true) else (zL, 0, false)
def ez1 := rd8 b a f (askT 3 0)
def ez2 := rd8 b (ez1 b f a).2.1 f (askT 3 0)
def ez3 := jAI b f (ez2 b f a).2.1
def jHF : EdgeD := ⟨(ez1 b f a).1.t, (ez2 b f a).1.t, (ez3 b f a).1⟩
def ok17 : Bool := (ez1 b f a).2.2 && (ez2 b f a).2.2 && (ez3 b f a).2.2 && jDE (jHF b f a)
def jBd : EdgeD × Int × Bool := if ok17 b f a then (jHF b f a, (ez3 b f a).2.1, true) else (zE, 0, false)
end
theorem jJ8 {b : List UInt8} {f a : Int} (h0 : 0 ≤ a) : ∀ k, 0 ≤ (pst b f a k).2.1
  | 0 => jA0 h0
  | k + 1 => jA0 (jA0 (jJ8 h0 k))
theorem jIn (b : List UInt8) (f a : Int) : ∀ k, (pst b f a k).1.length = k
  | 0 => rfl
  | k + 1 => by rw [pst, List.length_append, jIn]; rfl
theorem jGK {b : List UInt8} {f a : Int} {j : Nat} (h : (pst b f a j).2.2 = false) : ∀ k, (pst b f a (j + k)).2.2 = false
  | 0 => h
  | k + 1 => by rw [← Nat.add_assoc, pst, jGK h k]; rfl
theorem jFK {b : List UInt8} {f a : Int} (h : ¬ ((pz b f a).2.2 = true ∧ (pst b f a (pzn b f a)).2.2 = true)) : jFd b f a = ([], 0, false) := if_neg h
theorem jIc {b : List UInt8} {f a : Int} (h0 : 0 ≤ a) : 0 ≤ (jFd b f a).2.1 := by
  unfold jFd
  split
  · exact jJ8 h0 _
  exact Int.le_refl _
theorem jEh (b : List UInt8) (f a : Int) : (jFd b f a).1.length ≤ 6 := by
  unfold jFd
  split
  · rename_i h
    have := jDK h.1
    have h2 : (pz b f a).1.n ≤ 6 := this.2
    have h3 : 0 ≤ (pz b f a).1.n := this.1
    rw [jIn]; unfold pzn; omega
  simp
theorem jBE {b : List UInt8} {f a : Int} (h : ¬ ok15 b f a = true) : jAI b f a = (zL, 0, false) := if_neg h
theorem jNl {b : List UInt8} {f a : Int} (h0 : 0 ≤ a) : 0 ≤ (ly5 b f a).2.1 := jA0 (jA0 (jA0 (jA0 (jA0 h0))))
theorem jMk {b : List UInt8} {f a : Int} (h0 : 0 ≤ a) : 0 ≤ (ly7 b f a).2.1 := jIc (jIc (jNl h0))
theorem ly8_nn {b : List UInt8} {f a : Int} (h0 : 0 ≤ a) : 0 ≤ (ly8 b f a).2.1 := by
  unfold ly8
  split
  · exact get13_nn (jMk h0)
  exact jMk h0
theorem get15_nn {b : List UInt8} {f a : Int} (h0 : 0 ≤ a) : 0 ≤ (jAI b f a).2.1 := by
  unfold jAI
  split
  · exact ly8_nn h0
  exact Int.le_refl _
theorem jE7 {b : List UInt8} {f a : Int} (h : ¬ ok17 b f a = true) : jBd b f a = (zE, 0, false) := if_neg h
theorem jKD {b : List UInt8} {f a : Int} (h0 : 0 ≤ a) : 0 ≤ (jBd b f a).2.1 := by
  unfold jBd
  split
  · exact get15_nn (jA0 (jA0 h0))
  exact Int.le_refl _
section
variable {b : List UInt8} {f : Int} (hf : okF f = true)
include hf
theorem jIE {r : RdrD} {a : Int} (h : RdG b f r (pz b f a).2.1) : ∀ k, ((pst b f a k).2.2 = true → (jCS k r).1 = (pst b f a k).1 ∧ RdG b f (jCS k r).2 (pst b f a k).2.1) ∧ ((pst b f a k).2.2 = false → badP (jCS k r).2 = true)
  | 0 => ⟨fun _ => ⟨rfl, h⟩, fun h => (by cases h)⟩
  | k + 1 => by
    obtain ⟨i1, i2⟩ := jIE h k
    rw [pst]
    simp only [Bool.and_eq_true, Bool.and_eq_false_iff]
    cases e : (pst b f a k).2.2 with
    | false => exact ⟨fun hh => (by cases hh.1.1), fun _ => badt (by omega) (badt (by omega) (i2 e))⟩
    | true =>
      obtain ⟨v, g⟩ := i1 e
      obtain ⟨j1, j2⟩ := rd_s hf g (most := 12) (by omega)
      cases e2 : (rd8 b (pst b f a k).2.1 f (askT 1 12)).2.2 with
      | false => exact ⟨fun hh => (by cases hh.1.2), fun _ => badt (by omega) (j2 e2)⟩
      | true =>
        obtain ⟨v2, g2⟩ := j1 e2
        obtain ⟨m1, m2⟩ := rd_s hf g2 (most := 12) (by omega)
        refine ⟨fun hh => ?_, fun hh => hh.elim (fun h => (by simp at h)) m2⟩; obtain ⟨v3, g3⟩ := m1 hh.2; exact ⟨by rw [jCS, v, v2, v3], g3⟩
theorem jNf {r : RdrD} {a : Int} (h : RdG b f r a) : ((jFd b f a).2.2 = true → (gprP r).1 = (jFd b f a).1 ∧ RdG b f (gprP r).2 (jFd b f a).2.1) ∧ ((jFd b f a).2.2 = false → badP (gprP r).2 = true) := by
  obtain ⟨s1, s2⟩ := jGs hf h (most := 6) (by omega)
  cases e1 : (pz b f a).2.2 with
  | false =>
    rw [jFK (by rw [e1]; simp)]
    exact ⟨fun h => (by cases h), fun _ => jGE (s2 e1) _⟩
  | true =>
    obtain ⟨v1, g1⟩ := s1 e1
    have hn : prn r = pzn b f a := by unfold prn pzn; exact congrArg Int.toNat v1
    obtain ⟨t1, t2⟩ := jIE hf (a := a) g1 (pzn b f a)
    unfold gprP
    rw [hn]
    cases e2 : (pst b f a (pzn b f a)).2.2 with
    | false =>
      rw [jFK (by rw [e2]; simp)]
      exact ⟨fun h => (by cases h), fun _ => t2 e2⟩
    | true =>
      rw [show jFd b f a = ((pst b f a (pzn b f a)).1, (pst b f a (pzn b f a)).2.1, true) from if_pos ⟨e1, e2⟩]
      exact ⟨fun _ => t1 e2, fun h => (by cases h)⟩
theorem X_sim {r : RdrD} {a : Int} (g0 : RdG b f r a) : (ok15 b f a = true → (getX r).1 = jFI b f a ∧ RdG b f (getX r).2 (ly8 b f a).2.1) ∧ (ok15 b f a = false → badP (getX r).2 = true) := by
  have no' : ok15 b f a = false → badP (getX r).2 = true → (ok15 b f a = true → (getX r).1 = jFI b f a ∧ RdG b f (getX r).2 (ly8 b f a).2.1) ∧ (ok15 b f a = false → badP (getX r).2 = true) := fun h1 h2 => ⟨fun h => (by rw [h1] at h; cases h), fun _ => h2⟩
  have no : ok15 b f a = false → badP (lx8 r) = true → (ok15 b f a = true → (getX r).1 = jFI b f a ∧ RdG b f (getX r).2 (ly8 b f a).2.1) ∧ (ok15 b f a = false → badP (getX r).2 = true) := fun h1 h2 => no' h1 (jIf (.inl h2)).2
  have s1 := jMH hf g0 (most := 10) (by omega)
  cases e1 : (ly1 b f a).2.2 with
  | false =>
    have h1 : ok15 b f a = false := by unfold ok15; rw [e1]; rfl
    rcases s1.2 e1 with h | h
    · exact no h1 (lb1 h)
    exact no' h1 (jIf (.inr (Bool.eq_false_iff.2 fun hr => by have h9 : 1 ≤ (numP r).1 ∧ (numP r).1 ≤ 10 := jJK hr; omega))).2
  | true =>
  obtain ⟨v1, g1⟩ := s1.1 e1
  have s2 := jMT hf g1
  cases e2 : (ly2 b f a).2.2 with
  | false => exact no (by unfold ok15; rw [e1, e2]; rfl) (lb2 (s2.2 e2))
  | true =>
  obtain ⟨v2, g2⟩ := s2.1 e2
  have s3 := rd_s hf g2 (most := 12) (by omega)
  cases e3 : (ly3 b f a).2.2 with
  | false => exact no (by unfold ok15; rw [e1, e2, e3]; rfl) (lb3 (s3.2 e3))
  | true =>
  obtain ⟨v3, g3⟩ := s3.1 e3
  have s4 := rd_s hf g3 (most := 40) (by omega)
  cases e4 : (ly4 b f a).2.2 with
  | false => exact no (by unfold ok15; rw [e1, e2, e3, e4]; rfl) (lb4 (s4.2 e4))
  | true =>
  obtain ⟨v4, g4⟩ := s4.1 e4
  have s5 := rd_n hf g4
  cases e5 : (ly5 b f a).2.2 with
  | false => exact no (by unfold ok15; rw [e1, e2, e3, e4, e5]; rfl) (lb5 (s5.2 e5))
  | true =>
  obtain ⟨v5, g5⟩ := s5.1 e5
  have s6 := jNf hf g5
  cases e6 : (ly6 b f a).2.2 with
  | false => exact no (by unfold ok15; rw [e1, e2, e3, e4, e5, e6]; rfl) (lb6 (s6.2 e6))
  | true =>
  obtain ⟨v6, g6⟩ := s6.1 e6
  have s7 := jNf hf g6
  cases e7 : (ly7 b f a).2.2 with
  | false => exact no (by unfold ok15; rw [e1, e2, e3, e4, e5, e6, e7]; rfl) (lb7 (s7.2 e7))
  | true =>
  obtain ⟨v7, g7⟩ := s7.1 e7
  have hk : (numP r).1 = (ly1 b f a).1.n := v1
  have s8 : ((ly8 b f a).2.2 = true → lxF r = (ly8 b f a).1 ∧ RdG b f (lx8 r) (ly8 b f a).2.1) ∧ ((ly8 b f a).2.2 = false → badP (lx8 r) = true) := by
    unfold lxF lx8 ly8
    rw [hk]
    by_cases ha : jFM (ly1 b f a).1.n = true
    · rw [if_pos ha, if_pos ha, if_pos ha]
      obtain ⟨c1, c2⟩ := fld_sim hf g7
      cases e : ok13 b f (ly7 b f a).2.1 with
      | false =>
        rw [show jDw b f (ly7 b f a).2.1 = (zeroF, 0, false) from jDk (by rw [e]; decide)]
        exact ⟨fun h => (by cases h), fun _ => c2 e⟩
      | true =>
        have e9 : jDw b f (ly7 b f a).2.1 = (jHE b f (ly7 b f a).2.1, (y6 b f (ly7 b f a).2.1).2.1, true) := if_pos e
        rw [e9]
        exact ⟨fun _ => c1 e, fun h => (by cases h)⟩
    rw [if_neg ha, if_neg ha, if_neg ha]
    exact ⟨fun _ => ⟨rfl, g7⟩, fun h => (by cases h)⟩
  cases e8 : (ly8 b f a).2.2 with
  | false => exact no (by unfold ok15; rw [e1, e2, e3, e4, e5, e6, e7, e8]; rfl) (s8.2 e8)
  | true =>
  obtain ⟨v8, g8⟩ := s8.1 e8
  have hraw : rawX r = jFI b f a := by
    have w2 : (jCb (lx1 r)).1 = (ly2 b f a).1.r := v2
    have w3 : (jAH (lx2 r) 12).1 = (ly3 b f a).1.s := v3
    have w4 : (jAH (lx3 r) 40).1 = (ly4 b f a).1.s := v4
    have w5 : (numP (lx4 r)).1 = (ly5 b f a).1.n := v5
    have w6 : (gprP (lx5 r)).1 = (ly6 b f a).1 := v6
    have w7 : (gprP (lx6 r)).1 = (ly7 b f a).1 := v7
    unfold rawX jFI
    rw [hk, w2, w3, w4, w5, v8, w6, w7]
  have hok : ok15 b f a = jB2 (jFI b f a) := by
    unfold ok15
    rw [e1, e2, e3, e4, e5, e6, e7, e8]; rfl
  rw [hok, ← hraw]
  refine ⟨fun h => ?_, fun h => (jIf (.inr h)).2⟩
  unfold getX
  rw [g8.nb hf, if_neg (by decide), if_pos h]
  exact ⟨rfl, g8⟩
theorem X_sim' {r : RdrD} {a : Int} (g0 : RdG b f r a) : ((jAI b f a).2.2 = true → (getX r).1 = (jAI b f a).1 ∧ RdG b f (getX r).2 (jAI b f a).2.1) ∧ ((jAI b f a).2.2 = false → badP (getX r).2 = true) := by
  obtain ⟨c1, c2⟩ := X_sim hf g0
  cases e : ok15 b f a with
  | false =>
    rw [jBE (by rw [e]; decide)]
    exact ⟨fun h => (by cases h), fun _ => c2 e⟩
  | true =>
    rw [show jAI b f a = (jFI b f a, (ly8 b f a).2.1, true) from if_pos e]
    exact ⟨fun _ => c1 e, fun h => (by cases h)⟩
theorem E_sim {r : RdrD} {a : Int} (g0 : RdG b f r a) : ((jBd b f a).2.2 = true → (getE r).1 = (jBd b f a).1 ∧ RdG b f (getE r).2 (jBd b f a).2.1) ∧ ((jBd b f a).2.2 = false → badP (getE r).2 = true) := by
  have no : ok17 b f a = false → badP (ex3 r) = true → ((jBd b f a).2.2 = true → (getE r).1 = (jBd b f a).1 ∧ RdG b f (getE r).2 (jBd b f a).2.1) ∧ ((jBd b f a).2.2 = false → badP (getE r).2 = true) := fun h1 h2 => by
    rw [jE7 (by rw [h1]; decide)]
    exact ⟨fun h => (by cases h), fun _ => (jJS (.inl h2)).2⟩
  have s1 := jHc hf g0
  cases e1 : (ez1 b f a).2.2 with
  | false => exact no (by unfold ok17; rw [e1]; rfl) (eb1 (s1.2 e1))
  | true =>
  obtain ⟨v1, g1⟩ := s1.1 e1
  have s2 := jHc hf g1
  cases e2 : (ez2 b f a).2.2 with
  | false => exact no (by unfold ok17; rw [e1, e2]; rfl) (eb2 (s2.2 e2))
  | true =>
  obtain ⟨v2, g2⟩ := s2.1 e2
  have s3 := X_sim' hf g2
  cases e3 : (ez3 b f a).2.2 with
  | false => exact no (by unfold ok17; rw [e1, e2, e3]; rfl) (s3.2 e3)
  | true =>
  obtain ⟨v3, g3⟩ := s3.1 e3
  have g3 : RdG b f (ex3 r) (ez3 b f a).2.1 := g3
  have hraw : rawE r = jHF b f a := by
    have w1 : (jBo r).1 = (ez1 b f a).1.t := v1
    have w2 : (jBo (ex1 r)).1 = (ez2 b f a).1.t := v2
    have w3 : (getX (ex2 r)).1 = (ez3 b f a).1 := v3
    unfold rawE jHF
    rw [w1, w2, w3]
  have hok : ok17 b f a = jDE (jHF b f a) := by
    unfold ok17
    rw [e1, e2, e3]; rfl
  cases e : jDE (jHF b f a) with
  | false =>
    rw [jE7 (by rw [hok, e]; decide)]
    exact ⟨fun h => (by cases h), fun _ => (jJS (.inr (by rw [hraw]; exact e))).2⟩
  | true =>
    rw [show jBd b f a = (jHF b f a, (ez3 b f a).2.1, true) from if_pos (by rw [hok, e])]
    unfold getE
    rw [g3.nb hf, if_neg (by decide), hraw, e, if_pos rfl]
    exact ⟨fun _ => ⟨rfl, g3⟩, fun h => (by cases h)⟩
end
end Go.Proofs.YtlapcfnmmpbeeaaGreat
