/- A part of a proof. -/
import Derived.Test.YtlapcfnmmpbeeaaPT33
import Derived.Test.YtlapcfnmmpbeeaaPT34
set_option linter.unusedSimpArgs false
set_option linter.unusedVariables false
namespace Go.Proofs.Ytlapcfnmmpbeeaa
set_option maxRecDepth 100000
open Go.RowKit
structure LensD.Wf (x : LensD) : Prop where
  kind : i64R x.kind
  scope : i64R x.at_.scope
  factor : i64R x.factor
  field : x.field.Wf
structure LensD.Light (x : LensD) : Prop where
  group : x.at_.group.length ≤ 200
  name : x.at_.name.length ≤ 200
  nm : x.name.length ≤ 200
  other : x.other.length ≤ 200
  field : x.field.Light
  forth : x.forth.length ≤ 20 ∧ ∀ p ∈ x.forth, p.from_.length ≤ 200 ∧ p.tQ.length ≤ 200
  back : x.back.length ≤ 20 ∧ ∀ p ∈ x.back, p.from_.length ≤ 200 ∧ p.tQ.length ≤ 200
def pairP (f : Int) (p : PairD) : List UInt8 := textP f p.from_ ++ textP f p.tQ
def putPr (f : Int) (l : List PairD) (k : Nat) : List UInt8 := putN f (l.length : Nat) ++ (l.take k).flatMap (pairP f)
def px1 (f : Int) (x : LensD) : List UInt8 := putN f x.kind
def px2 (f : Int) (x : LensD) : List UInt8 := px1 f x ++ refP f x.at_
def px3 (f : Int) (x : LensD) : List UInt8 := px2 f x ++ textP f x.name
def px4 (f : Int) (x : LensD) : List UInt8 := px3 f x ++ textP f x.other
def px5 (f : Int) (x : LensD) : List UInt8 := px4 f x ++ putN f x.factor
def px6 (f : Int) (x : LensD) : List UInt8 := px5 f x ++ putPr f x.forth x.forth.length
def px7 (f : Int) (x : LensD) : List UInt8 := px6 f x ++ putPr f x.back x.back.length
def addsB (k : Int) : Bool := decide (k = 2) || decide (k = 3)
def putX (f : Int) (x : LensD) : List UInt8 := px7 f x ++ if addsB x.kind then putF f x.field else []
def putE (f : Int) (e : EdgeD) : List UInt8 := tagP f e.id ++ tagP f e.par ++ putX f e.lens
theorem putPr_0 (f : Int) (l : List PairD) : putPr f l 0 = putN f (l.length : Nat) := by unfold putPr; simp
theorem putPr_s {f : Int} {l : List PairD} {k : Nat} (hk : k < l.length) : putPr f l (k + 1) = putPr f l k ++ textP f l[k].from_ ++ textP f l[k].tQ := by
  unfold putPr pairP
  rw [← List.take_append_getElem hk, List.flatMap_append]; simp
theorem pairs_len {f : Int} : ∀ {l : List PairD}, (∀ p ∈ l, p.from_.length ≤ 200 ∧ p.tQ.length ≤ 200) → (l.flatMap (pairP f)).length ≤ 420 * l.length
  | [], _ => by simp
  | p :: l, h => by
    have h1 := h p (by simp)
    have := textP_len f p.from_; have := textP_len f p.tQ; have := pairs_len (f := f) (l := l) (fun q hq => h q (by simp [hq]))
    simp only [List.flatMap_cons, List.length_append, List.length_cons, pairP]; omega
theorem putPr_len {f : Int} {l : List PairD} (hn : l.length ≤ 20) (h : ∀ p ∈ l, p.from_.length ≤ 200 ∧ p.tQ.length ≤ 200) (k : Nat) : (putPr f l k).length ≤ 8500 := by
  have h1 := pairs_len (f := f) (l := l.take k) (fun p hp => h p (List.mem_of_mem_take hp))
  have h2 := putN_len f (l.length : Nat)
  have h3 : (l.take k).length ≤ 20 := by rw [List.length_take]; omega
  unfold putPr
  rw [List.length_append]; omega
theorem px5_len {f : Int} {x : LensD} (h : x.Light) : (px1 f x).length ≤ 1000 ∧ (px2 f x).length ≤ 1000 ∧ (px3 f x).length ≤ 1000 ∧ (px4 f x).length ≤ 1000 ∧ (px5 f x).length ≤ 1000 := by
  have a1 := putN_len f x.kind; have a2 := refP_len f x.at_; have a3 := textP_len f x.name; have a4 := textP_len f x.other; have a5 := putN_len f x.factor
  have h1 := h.group; have h2 := h.name; have h3 := h.nm; have h4 := h.other
  unfold px5 px4 px3 px2 px1
  simp only [List.length_append]
  omega
theorem px7_len {f : Int} {x : LensD} (h : x.Light) : (px6 f x).length ≤ 10000 ∧ (px7 f x).length ≤ 20000 := by
  have a := (px5_len (f := f) h).2.2.2.2
  have b := putPr_len (f := f) h.forth.1 h.forth.2 x.forth.length
  have c := putPr_len (f := f) h.back.1 h.back.2 x.back.length
  unfold px7 px6
  simp only [List.length_append]
  omega
theorem putX_len {f : Int} {x : LensD} (h : x.Light) : (putX f x).length ≤ 25000 := by
  have a := (px7_len (f := f) h).2
  have b := putF_len (f := f) h.field
  unfold putX
  rw [List.length_append]
  split
  · omega
  simp; omega
theorem putE_len {f : Int} {e : EdgeD} (h : e.lens.Light) : (putE f e).length ≤ 26000 := by
  have a := putX_len (f := f) h
  have b := tagP_len f e.id; have c := tagP_len f e.par
  unfold putE
  simp only [List.length_append]; omega
theorem hpB_light {l : List PairD} (h : hpB l = false) : l.length ≤ 20 ∧ ∀ p ∈ l, p.from_.length ≤ 200 ∧ p.tQ.length ≤ 200 := by
  refine ⟨hpB_f h, fun p hp => ?_⟩
  unfold hpB at h
  simp only [Bool.or_eq_false_iff, decide_eq_false_iff_not, List.any_eq_false, decide_eq_true_eq] at h
  have := h.2 p hp
  simp only [Bool.or_eq_true, decide_eq_true_eq] at this
  omega
def pairsP : Nat → RdrD → List PairD × RdrD
  | 0, r => ([], r)
  | n + 1, r => ((pairsP n r).1 ++ [⟨(rtextP (pairsP n r).2 12).1, (rtextP (rtextP (pairsP n r).2 12).2 12).1⟩], (rtextP (rtextP (pairsP n r).2 12).2 12).2)
def prn (r : RdrD) : Nat := (countP r 6).1.toNat
def gprP (r : RdrD) : List PairD × RdrD := pairsP (prn r) (countP r 6).2
def lx1 (r : RdrD) : RdrD := (numP r).2
def lx2 (r : RdrD) : RdrD := (rrefP (lx1 r)).2
def lx3 (r : RdrD) : RdrD := (rtextP (lx2 r) 12).2
def lx4 (r : RdrD) : RdrD := (rtextP (lx3 r) 40).2
def lx5 (r : RdrD) : RdrD := (numP (lx4 r)).2
def lx6 (r : RdrD) : RdrD := (gprP (lx5 r)).2
def lx7 (r : RdrD) : RdrD := (gprP (lx6 r)).2
def lxF (r : RdrD) : FldD := if addsB (numP r).1 then (getF (lx7 r)).1 else zeroF
def lx8 (r : RdrD) : RdrD := if addsB (numP r).1 then (getF (lx7 r)).2 else lx7 r
def rawX (r : RdrD) : LensD := ⟨(numP r).1, (rrefP (lx1 r)).1, (rtextP (lx2 r) 12).1, (rtextP (lx3 r) 40).1, (numP (lx4 r)).1, lxF r, (gprP (lx5 r)).1, (gprP (lx6 r)).1⟩
def getX (r : RdrD) : LensD × RdrD := if badP (lx8 r) then (zL, lx8 r) else if rightL (rawX r) then (rawX r, lx8 r) else (zL, spoilP (lx8 r))
def zE : EdgeD := ⟨⟨0, 0⟩, ⟨0, 0⟩, zL⟩
def ex1 (r : RdrD) : RdrD := (rtagP r).2
def ex2 (r : RdrD) : RdrD := (rtagP (ex1 r)).2
def ex3 (r : RdrD) : RdrD := (getX (ex2 r)).2
def rawE (r : RdrD) : EdgeD := ⟨(rtagP r).1, (rtagP (ex1 r)).1, (getX (ex2 r)).1⟩
def getE (r : RdrD) : EdgeD × RdrD := if badP (ex3 r) then (zE, ex3 r) else if edgeB (rawE r) then (rawE r, ex3 r) else (zE, spoilP (ex3 r))
theorem pairsP_ok {r : RdrD} (h : r.Ok) : ∀ n, r.Of (pairsP n r).2 ∧ (pairsP n r).1.length = n
  | 0 => ⟨h.of, rfl⟩
  | n + 1 => by
    obtain ⟨a, b⟩ := pairsP_ok h n
    exact ⟨(a.trans (a.ok.text 12)).trans ((a.ok.text 12).ok.text 12), by rw [pairsP, List.length_append, b]; rfl⟩
section
variable {r : RdrD} (h : r.Ok)
include h
theorem gprP_ok : r.Of (gprP r).2 := (h.count 6).trans (pairsP_ok (h.count 6).ok _).1
theorem lx1_ok : r.Of (lx1 r) := h.num
theorem lx2_ok : r.Of (lx2 r) := (lx1_ok h).trans (lx1_ok h).ok.ref
theorem lx3_ok : r.Of (lx3 r) := (lx2_ok h).trans ((lx2_ok h).ok.text 12)
theorem lx4_ok : r.Of (lx4 r) := (lx3_ok h).trans ((lx3_ok h).ok.text 40)
theorem lx5_ok : r.Of (lx5 r) := (lx4_ok h).trans (lx4_ok h).ok.num
theorem lx6_ok : r.Of (lx6 r) := (lx5_ok h).trans (gprP_ok (lx5_ok h).ok)
theorem lx7_ok : r.Of (lx7 r) := (lx6_ok h).trans (gprP_ok (lx6_ok h).ok)
theorem lx8_ok : r.Of (lx8 r) := by
  unfold lx8
  split
  · exact (lx7_ok h).trans (getF_ok (lx7_ok h).ok)
  exact lx7_ok h
theorem getX_ok : r.Of (getX r).2 := by
  unfold getX
  split
  · exact lx8_ok h
  split
  · exact lx8_ok h
  exact (lx8_ok h).trans (lx8_ok h).ok.spoil
theorem ex1_ok : r.Of (ex1 r) := h.tag
theorem ex2_ok : r.Of (ex2 r) := (ex1_ok h).trans (ex1_ok h).ok.tag
theorem ex3_ok : r.Of (ex3 r) := (ex2_ok h).trans (getX_ok (ex2_ok h).ok)
theorem getE_ok : r.Of (getE r).2 := by
  unfold getE
  split
  · exact ex3_ok h
  split
  · exact ex3_ok h
  exact (ex3_ok h).trans (ex3_ok h).ok.spoil
end
theorem bad_pairs {r : RdrD} (h : badP r = true) : ∀ n, badP (pairsP n r).2 = true
  | 0 => h
  | n + 1 => badt (by omega) (badt (by omega) (bad_pairs h n))
theorem bad_getF {r : RdrD} (h : badP r = true) : badP (getF r).2 = true := (getF_no (.inl (b0 h))).2
theorem getX_no {r : RdrD} (h : badP (lx8 r) = true ∨ rightL (rawX r) = false) : (getX r).1 = zL ∧ badP (getX r).2 = true := by
  unfold getX
  by_cases h1 : badP (lx8 r) = true
  · rw [if_pos h1]; exact ⟨rfl, h1⟩
  rw [if_neg h1, if_neg (by rcases h with h | h <;> simp_all)]
  exact ⟨rfl, rfl⟩
theorem getE_no {r : RdrD} (h : badP (ex3 r) = true ∨ edgeB (rawE r) = false) : (getE r).1 = zE ∧ badP (getE r).2 = true := by
  unfold getE
  by_cases h1 : badP (ex3 r) = true
  · rw [if_pos h1]; exact ⟨rfl, h1⟩
  rw [if_neg h1, if_neg (by rcases h with h | h <;> simp_all)]
  exact ⟨rfl, rfl⟩
section
variable {r : RdrD}
theorem bad_gpr (h : badP r = true) : badP (gprP r).2 = true := bad_pairs (bad_count h (by omega)) _
theorem lb7 (h : badP (lx7 r) = true) : badP (lx8 r) = true := by
  unfold lx8
  split
  · exact bad_getF h
  exact h
theorem lb6 (h : badP (lx6 r) = true) : badP (lx8 r) = true := lb7 (bad_gpr h)
theorem lb5 (h : badP (lx5 r) = true) : badP (lx8 r) = true := lb6 (bad_gpr h)
theorem lb4 (h : badP (lx4 r) = true) : badP (lx8 r) = true := lb5 (badn h)
theorem lb3 (h : badP (lx3 r) = true) : badP (lx8 r) = true := lb4 (badt (by omega) h)
theorem lb2 (h : badP (lx2 r) = true) : badP (lx8 r) = true := lb3 (badt (by omega) h)
theorem lb1 (h : badP (lx1 r) = true) : badP (lx8 r) = true := lb2 (bad_ref h)
theorem lb0 (h : badP r = true) : badP (lx8 r) = true := lb1 (badn h)
theorem bad_getX (h : badP r = true) : badP (getX r).2 = true := (getX_no (.inl (lb0 h))).2
theorem eb2 (h : badP (ex2 r) = true) : badP (ex3 r) = true := bad_getX h
theorem eb1 (h : badP (ex1 r) = true) : badP (ex3 r) = true := eb2 (bad_tag h)
theorem eb0 (h : badP r = true) : badP (ex3 r) = true := eb1 (bad_tag h)
theorem bad_getE (h : badP r = true) : badP (getE r).2 = true := (getE_no (.inl (eb0 h))).2
end
theorem tab_read {t u : List PairD} (h : tabB t u = true) (h' : tabB u t = true) : t.length ≤ 6 ∧ ∀ p ∈ t, p.from_.length ≤ 12 ∧ p.tQ.length ≤ 12 := by
  have key : ∀ {t u : List PairD}, tabB t u = true → t.length ≤ 6 ∧ ∀ i (hi : i < t.length), nameB t[i].from_ = true ∧ (u.map PairD.from_).contains t[i].tQ = true := fun {t u} h => by
    unfold tabB at h
    simp only [Bool.and_eq_true, List.all_eq_true, List.mem_range, decide_eq_true_eq] at h
    refine ⟨by omega, fun i hi => ?_⟩
    have := h.2 i hi
    rw [okT_at hi] at this
    simp only [Bool.and_eq_true] at this
    exact ⟨this.1.1, this.2⟩
  obtain ⟨h1, h2⟩ := key h
  obtain ⟨h3, h4⟩ := key h'
  refine ⟨h1, fun p hp => ?_⟩; obtain ⟨i, hi, rfl⟩ := List.getElem_of_mem hp; obtain ⟨a, b⟩ := h2 i hi; rw [List.contains_iff_mem, List.mem_map] at b; obtain ⟨q, hq, e⟩ := b; obtain ⟨j, hj, rfl⟩ := List.getElem_of_mem hq; exact ⟨nameB_len a, by rw [← e]; exact nameB_len (h4 j hj).1⟩
theorem rightL_read {x : LensD} (h : rightL x = true) : (x.at_.group.length ≤ 12 ∧ x.at_.name.length ≤ 12) ∧ x.name.length ≤ 12 ∧ x.other.length ≤ 40 ∧ (x.forth.length ≤ 6 ∧ ∀ p ∈ x.forth, p.from_.length ≤ 12 ∧ p.tQ.length ≤ 12) ∧ (x.back.length ≤ 6 ∧ ∀ p ∈ x.back, p.from_.length ≤ 12 ∧ p.tQ.length ≤ 12) ∧ (if addsB x.kind then rightF x.field = true else x.field = zeroF) := by
  have htn := @nameB_len x.name; have hto := @nameB_len x.other
  have hp := @placeB_len x.at_
  have ht1 := @tab_read x.forth x.back; have ht2 := @tab_read x.back x.forth
  have hk1 := @tab_name x.forth x.back x.name; have hk2 := @tab_name x.back x.forth x.other
  have e0 : x.forth = [] → x.forth.length ≤ 6 ∧ ∀ p ∈ x.forth, p.from_.length ≤ 12 ∧ p.tQ.length ≤ 12 := fun h => by rw [h]; simp
  have e1 : x.back = [] → x.back.length ≤ 6 ∧ ∀ p ∈ x.back, p.from_.length ≤ 12 ∧ p.tQ.length ≤ 12 := fun h => by rw [h]; simp
  have e2 : x.name = [] → x.name.length ≤ 12 := fun h => by rw [h]; simp
  have e3 : x.other = [] → x.other.length ≤ 40 := fun h => by rw [h]; simp
  have e4 : x.at_ = ⟨0, [], []⟩ → x.at_.group.length ≤ 12 ∧ x.at_.name.length ≤ 12 := fun h => by rw [h]; simp
  rw [← right_eq] at h
  unfold rightV tabsL at h
  unfold addsB
  by_cases k2 : x.kind = 2 ∨ x.kind = 3
  · rw [if_pos k2] at h
    have e5 : (decide (x.kind = 2) || decide (x.kind = 3)) = true := by simpa using k2
    rw [e5, if_pos rfl]
    simp only [Bool.and_eq_true, decide_eq_true_eq, Bool.not_eq_true', Bool.or_eq_false_iff, decide_eq_false_iff_not, ne_eq, Classical.not_not] at h
    obtain ⟨⟨⟨⟨⟨h1, h2⟩, h3⟩, h4⟩, h5, h6⟩, h7⟩ := h
    exact ⟨e4 h1, e2 h2, e3 h3, e0 h5, e1 h6, h7⟩
  rw [if_neg k2] at h
  have e5 : (decide (x.kind = 2) || decide (x.kind = 3)) = false := by simpa using k2
  rw [e5, if_neg (by decide)]
  split at h
  · cases h
  rename_i h0
  have hz : x.field = zeroF := Classical.byContradiction fun e => h0 (.inr e)
  have hpl := hp (by cases e : placeB x.at_ <;> simp_all)
  refine ⟨hpl, ?_⟩
  split at h
  · simp only [Bool.and_eq_true, decide_eq_true_eq] at h
    obtain ⟨⟨⟨⟨⟨⟨_, h1⟩, h2⟩, h3⟩, h4⟩, _⟩, _⟩ := h
    have := hto (hk2 h2 h4)
    exact ⟨htn (hk1 h1 h3), by omega, ht1 h1 h2, ht2 h2 h1, hz⟩
  split at h
  · cases h
  rename_i h1
  simp only [Bool.or_eq_true, decide_eq_true_eq, not_or, ne_eq, Classical.not_not] at h1
  refine ⟨?_, ?_, e0 h1.1, e1 h1.2, hz⟩
  all_goals grind
theorem pairs_at {r : RdrD} {f : Int} {pre suf : List UInt8} {l : List PairD} (h : r.At f pre (l.flatMap (pairP f) ++ suf)) (hl : ∀ p ∈ l, p.from_.length ≤ 12 ∧ p.tQ.length ≤ 12) : ∀ k, k ≤ l.length → (pairsP k r).1 = l.take k ∧ (pairsP k r).2.At f (pre ++ (l.take k).flatMap (pairP f)) ((l.drop k).flatMap (pairP f) ++ suf)
  | 0, _ => ⟨rfl, by simpa [pairsP] using h⟩
  | k + 1, hk => by
    obtain ⟨a, b⟩ := pairs_at h hl k (by omega)
    have e : l.take (k + 1) = l.take k ++ [l[k]] := (List.take_append_getElem (by omega)).symm
    obtain ⟨q1, q2⟩ := hl _ (List.getElem_mem (show k < l.length by omega))
    rw [List.drop_eq_getElem_cons (by omega), List.flatMap_cons, show pairP f l[k] = textP f l[k].from_ ++ textP f l[k].tQ from rfl, List.append_assoc, List.append_assoc] at b
    obtain ⟨c1, c2⟩ := (text_at b (by omega) (most := 12)).1 (by omega)
    obtain ⟨d1, d2⟩ := (text_at c2 (by omega) (most := 12)).1 (by omega)
    refine ⟨by rw [pairsP, a, c1, d1, e], ?_⟩; rw [e, List.flatMap_append]; rw [List.append_assoc, List.append_assoc] at d2
    simpa [pairsP, pairP] using d2
theorem gpr_at {r : RdrD} {f : Int} {pre suf : List UInt8} {l : List PairD} (h : r.At f pre (putPr f l l.length ++ suf)) (hn : l.length ≤ 6) (hl : ∀ p ∈ l, p.from_.length ≤ 12 ∧ p.tQ.length ≤ 12) : (gprP r).1 = l ∧ (gprP r).2.At f (pre ++ putPr f l l.length) suf := by
  unfold putPr at h ⊢
  rw [List.take_length] at h ⊢
  rw [List.append_assoc] at h
  obtain ⟨a, b⟩ := (count_at h (by omega) (most := 6)).1 (by omega)
  have en : prn r = l.length := by unfold prn; rw [a]; exact Int.toNat_natCast _
  obtain ⟨c, d⟩ := pairs_at b hl l.length (Nat.le_refl _)
  unfold gprP
  rw [en]
  rw [List.take_length] at c d
  rw [List.drop_length, List.flatMap_nil, List.nil_append, List.append_assoc] at d
  exact ⟨c, d⟩
theorem X_at {r : RdrD} {f : Int} {pre suf : List UInt8} {x : LensD} (h0 : r.At f pre (putX f x ++ suf)) (hw : x.Wf) (hl : x.Light) (hr : rightL x = true) : (getX r).1 = x ∧ (getX r).2.At f (pre ++ putX f x) suf := by
  obtain ⟨q1, q2, q3, q4, q5, q6⟩ := rightL_read hr
  have h0 : r.At f pre (putN f x.kind ++ (refP f x.at_ ++ (textP f x.name ++ (textP f x.other ++ (putN f x.factor ++ (putPr f x.forth x.forth.length ++ (putPr f x.back x.back.length ++ ((if addsB x.kind then putF f x.field else []) ++ suf)))))))) := by
    have e : putX f x ++ suf = putN f x.kind ++ (refP f x.at_ ++ (textP f x.name ++ (textP f x.other ++ (putN f x.factor ++ (putPr f x.forth x.forth.length ++ (putPr f x.back x.back.length ++ ((if addsB x.kind then putF f x.field else []) ++ suf))))))) := by
      unfold putX px7 px6 px5 px4 px3 px2 px1
      simp only [List.append_assoc]
    rw [← e]; exact h0
  obtain ⟨v1, h1⟩ := num_at h0 hw.kind
  obtain ⟨v2, h2⟩ := (ref_at h1 hw.scope (by omega) (by omega)).1 q1
  obtain ⟨v3, h3⟩ := (text_at h2 (by omega) (most := 12)).1 (by omega)
  obtain ⟨v4, h4⟩ := (text_at h3 (by omega) (most := 40)).1 (by omega)
  obtain ⟨v5, h5⟩ := num_at h4 hw.factor
  obtain ⟨v6, h6⟩ := gpr_at h5 q4.1 q4.2
  obtain ⟨v7, h7⟩ := gpr_at h6 q5.1 q5.2
  have h8 : lxF r = x.field ∧ (lx8 r).At f (pre ++ putX f x) suf := by
    have ep : pre ++ putX f x = pre ++ putN f x.kind ++ refP f x.at_ ++ textP f x.name ++ textP f x.other ++ putN f x.factor ++ putPr f x.forth x.forth.length ++ putPr f x.back x.back.length ++ (if addsB x.kind then putF f x.field else []) := by
      unfold putX px7 px6 px5 px4 px3 px2 px1
      simp only [List.append_assoc]
    rw [ep]
    unfold lxF lx8
    rw [v1]
    by_cases hk : addsB x.kind = true
    · rw [if_pos hk] at q6 h7 ⊢
      rw [if_pos hk, if_pos hk]
      exact (fld_at h7 hw.field hl.field).1 q6
    rw [if_neg hk] at q6 h7 ⊢
    rw [if_neg hk, if_neg hk, List.append_nil]
    rw [List.nil_append] at h7
    exact ⟨q6.symm, h7⟩
  have er : rawX r = x := by
    have w2 : (rrefP (lx1 r)).1 = x.at_ := v2
    have w3 : (rtextP (lx2 r) 12).1 = x.name := v3
    have w4 : (rtextP (lx3 r) 40).1 = x.other := v4
    have w5 : (numP (lx4 r)).1 = x.factor := v5
    have w6 : (gprP (lx5 r)).1 = x.forth := v6
    have w7 : (gprP (lx6 r)).1 = x.back := v7
    unfold rawX
    rw [v1, w2, w3, w4, w5, h8.1, w6, w7]
  unfold getX
  rw [h8.2.nb, if_neg (by decide), er, if_pos hr]
  exact ⟨rfl, h8.2⟩
structure EdgeD.Wf (e : EdgeD) : Prop where
  id1 : i64R e.id.rep
  id2 : i64R e.id.n
  par1 : i64R e.par.rep
  par2 : i64R e.par.n
  lens : e.lens.Wf
theorem edge_lens {e : EdgeD} (h : edgeB e = true) : rightL e.lens = true := by
  unfold edgeB at h
  simp only [Bool.and_eq_true] at h
  exact h.2
theorem E_at {r : RdrD} {f : Int} {pre suf : List UInt8} {e : EdgeD} (h0 : r.At f pre (putE f e ++ suf)) (hw : e.Wf) (hl : e.lens.Light) (hr : edgeB e = true) : (getE r).1 = e ∧ (getE r).2.At f (pre ++ putE f e) suf := by
  unfold putE at h0 ⊢
  rw [List.append_assoc, List.append_assoc] at h0
  obtain ⟨v1, h1⟩ := tag_at h0 hw.id1 hw.id2
  obtain ⟨v2, h2⟩ := tag_at h1 hw.par1 hw.par2
  obtain ⟨v3, h3⟩ := X_at h2 hw.lens hl (edge_lens hr)
  have er : rawE r = e := by
    have w2 : (rtagP (ex1 r)).1 = e.par := v2
    have w3 : (getX (ex2 r)).1 = e.lens := v3
    unfold rawE
    rw [v1, w2, w3]
  have h3 : (ex3 r).At f (pre ++ (tagP f e.id ++ tagP f e.par ++ putX f e.lens)) suf := by
    rw [← List.append_assoc, ← List.append_assoc]; exact h3
  unfold getE
  rw [h3.nb, if_neg (by decide), er, if_pos hr]
  exact ⟨rfl, h3⟩
section
variable (b : List UInt8) (f a : Int)
end
section
variable {b : List UInt8} {f : Int} (hf : okF f = true)
include hf
end
end Go.Proofs.Ytlapcfnmmpbeeaa
