/- Texts of the proof of talkRight_holds, put together by a program: FbP TxA. -/
import Derived.Test.YtlapcfnmmpbeeaaGreatPR31
import Derived.Test.YtlapcfnmmpbeeaaGreatPR35
set_option linter.unusedSimpArgs false
set_option linter.unusedVariables false
namespace Go.Proofs.YtlapcfnmmpbeeaaGreat
set_option maxRecDepth 100000
open Go.RowKit
def zeroF : FldD := ⟨⟨0, [], []⟩, 0, [], [], 0⟩
structure FldD.Wf (x : FldD) : Prop where
  scope : i64R x.at_.scope
  kind : i64R x.kind
  worth : i64R x.worth
structure FldD.Light (x : FldD) : Prop where
  group : x.at_.group.length ≤ 200
  name : x.at_.name.length ≤ 200
  dflt : x.dflt.length ≤ 200
  cases : x.cases.length ≤ 20
  case : ∀ c ∈ x.cases, c.length ≤ 200
def pf1 (f : Int) (x : FldD) : List UInt8 := refP f x.at_
def pf2 (f : Int) (x : FldD) : List UInt8 := pf1 f x ++ putN f x.kind
def pf3 (f : Int) (x : FldD) : List UInt8 := pf2 f x ++ textP f x.dflt
def pf4 (f : Int) (x : FldD) : List UInt8 := pf3 f x ++ putN f (x.cases.length : Nat)
def pf5 (f : Int) (x : FldD) (k : Nat) : List UInt8 := pf4 f x ++ (x.cases.take k).flatMap (textP f)
def putF (f : Int) (x : FldD) : List UInt8 := pf5 f x x.cases.length ++ putN f x.worth
def casesP : Nat → RdrD → List Bytes × RdrD
  | 0, r => ([], r)
  | n + 1, r => ((casesP n r).1 ++ [(rtextP (casesP n r).2 12).1], (rtextP (casesP n r).2 12).2)
def u1 (r : RdrD) : RdrD := (rrefP r).2
def u2 (r : RdrD) : RdrD := (numP (u1 r)).2
def u3 (r : RdrD) : RdrD := (rtextP (u2 r) 40).2
def u4 (r : RdrD) : RdrD := (countP (u3 r) 6).2
def un (r : RdrD) : Nat := (countP (u3 r) 6).1.toNat
def u5 (r : RdrD) : RdrD := (casesP (un r) (u4 r)).2
def u6 (r : RdrD) : RdrD := (numP (u5 r)).2
theorem casesP_ok {r : RdrD} (h : r.Ok) : ∀ n, r.Of (casesP n r).2 ∧ (casesP n r).1.length = n
  | 0 => ⟨h.of, rfl⟩
  | n + 1 => by
    obtain ⟨a, b⟩ := casesP_ok h n
    exact ⟨a.trans (a.ok.text 12), by rw [casesP, List.length_append, b]; rfl⟩
section
variable {r : RdrD} (h : r.Ok)
include h
end
theorem bad_cases {r : RdrD} (h : badP r = true) : ∀ n, badP (casesP n r).2 = true
  | 0 => h
  | n + 1 => badt (by omega) (bad_cases h n)
section
variable {r : RdrD}
theorem b5 (h : badP (u5 r) = true) : badP (u6 r) = true := badn h
theorem b4 (h : badP (u4 r) = true) : badP (u6 r) = true := b5 (bad_cases h _)
theorem b3 (h : badP (u3 r) = true) : badP (u6 r) = true := b4 (bad_count h (by omega))
theorem b2 (h : badP (u2 r) = true) : badP (u6 r) = true := b3 (badt (by omega) h)
theorem b1 (h : badP (u1 r) = true) : badP (u6 r) = true := b2 (badn h)
theorem b0 (h : badP r = true) : badP (u6 r) = true := b1 (bad_ref h)
end
theorem rightF_read {x : FldD} (h : rightF x = true) : (x.at_.group.length ≤ 12 ∧ x.at_.name.length ≤ 12) ∧ x.dflt.length ≤ 40 ∧ x.cases.length ≤ 6 ∧ (∀ c ∈ x.cases, c.length ≤ 12) ∧ 1 ≤ x.kind ∧ x.kind ≤ 4 := by
  unfold rightF at h
  rw [Bool.and_eq_true] at h
  obtain ⟨hp, h⟩ := h
  have hpl := placeB_len hp
  have e0 : ∀ l : List Bytes, (l == []) = true → l.length ≤ 6 ∧ ∀ c ∈ l, c.length ≤ 12 := fun l h => by
    obtain rfl := eq_of_beq h
    exact ⟨by simp, fun c hc => by simp at hc⟩
  split at h
  · rename_i hk
    simp only [Bool.and_eq_true] at h
    obtain ⟨⟨⟨h1, h2⟩, _⟩, _⟩ := h
    have := eq_of_beq h1
    exact ⟨hpl, by rw [this]; simp, (e0 _ h2).1, (e0 _ h2).2, by omega, by omega⟩
  · split at h
    · rename_i hk
      simp only [Bool.and_eq_true, decide_eq_true_eq] at h
      exact ⟨hpl, h.1.1, (e0 _ h.1.2).1, (e0 _ h.1.2).2, by omega, by omega⟩
    · split at h
      · rename_i hk
        simp only [Bool.and_eq_true] at h
        obtain ⟨⟨h1, h2⟩, _⟩ := h
        unfold casesB at h1
        simp only [Bool.and_eq_true, decide_eq_true_eq, List.all_eq_true, List.mem_range] at h1
        have hc : ∀ c ∈ x.cases, c.length ≤ 12 := fun c hc => by
          obtain ⟨i, hi, rfl⟩ := List.getElem_of_mem hc
          have := (h1.2 i hi).1
          rw [List.getD_eq_getElem?_getD, List.getElem?_eq_getElem hi] at this
          exact nameB_len this
        have := hc _ (List.contains_iff_mem.1 h2)
        exact ⟨hpl, by omega, h1.1.2, hc, by omega, by omega⟩
      · split at h
        · rename_i hk
          simp only [Bool.and_eq_true] at h
          obtain ⟨⟨h1, h2⟩, _⟩ := h
          have := eq_of_beq h1
          exact ⟨hpl, by rw [this]; simp, (e0 _ h2).1, (e0 _ h2).2, by omega, by omega⟩
        · cases h
section
variable (b : List UInt8) (f a : Int)
def y1 := rd8 b a f (askT 5 0)
def y2 := rd8 b (y1 b f a).2.1 f (askT 0 0)
def y3 := rd8 b (y2 b f a).2.1 f (askT 1 40)
def y4 := rd8 b (y3 b f a).2.1 f (askT 6 6)
def cst : Nat → List Bytes × Int × Bool
  | 0 => ([], (y4 b f a).2.1, true)
  | j + 1 => ((cst j).1 ++ [(rd8 b (cst j).2.1 f (askT 1 12)).1.s], (rd8 b (cst j).2.1 f (askT 1 12)).2.1, (cst j).2.2 && (rd8 b (cst j).2.1 f (askT 1 12)).2.2)
def yn : Nat := (y4 b f a).1.n.toNat
def y6 := rd8 b (cst b f a (yn b f a)).2.1 f (askT 0 0)
end
section
variable {b : List UInt8} {f : Int} (hf : okF f = true)
include hf
end
end Go.Proofs.YtlapcfnmmpbeeaaGreat
namespace Go.Proofs.YtlapcfnmmpbeeaaGreat
set_option maxRecDepth 100000
open Go.RowKit
structure LensD.Wf (x : LensD) : Prop where
  kind : i64R x.kind
  scope : i64R x.at_.scope
  factor : i64R x.factor
  field : x.field.Wf
structure LensD.Light (x : LensD) : Prop where
  group : x.at_.group.length ≤ 200
  name : x.at_.name.length ≤ 200
  nm : x.name.length ≤ 200
  other : x.other.length ≤ 200
  field : x.field.Light
  forth : x.forth.length ≤ 20 ∧ ∀ p ∈ x.forth, p.from_.length ≤ 200 ∧ p.to.length ≤ 200
  back : x.back.length ≤ 20 ∧ ∀ p ∈ x.back, p.from_.length ≤ 200 ∧ p.to.length ≤ 200
def pairP (f : Int) (p : PairD) : List UInt8 := textP f p.from_ ++ textP f p.to
def putPr (f : Int) (l : List PairD) (k : Nat) : List UInt8 := putN f (l.length : Nat) ++ (l.take k).flatMap (pairP f)
def px1 (f : Int) (x : LensD) : List UInt8 := putN f x.kind
def px2 (f : Int) (x : LensD) : List UInt8 := px1 f x ++ refP f x.at_
def px3 (f : Int) (x : LensD) : List UInt8 := px2 f x ++ textP f x.name
def px4 (f : Int) (x : LensD) : List UInt8 := px3 f x ++ textP f x.other
def px5 (f : Int) (x : LensD) : List UInt8 := px4 f x ++ putN f x.factor
def px6 (f : Int) (x : LensD) : List UInt8 := px5 f x ++ putPr f x.forth x.forth.length
def px7 (f : Int) (x : LensD) : List UInt8 := px6 f x ++ putPr f x.back x.back.length
def addsB (k : Int) : Bool := decide (k = 2) || decide (k = 3)
def putX (f : Int) (x : LensD) : List UInt8 := px7 f x ++ if addsB x.kind then putF f x.field else []
def putE (f : Int) (e : EdgeD) : List UInt8 := tagP f e.id ++ tagP f e.par ++ putX f e.lens
theorem hpB_light {l : List PairD} (h : hpB l = false) : l.length ≤ 20 ∧ ∀ p ∈ l, p.from_.length ≤ 200 ∧ p.to.length ≤ 200 := by
  refine ⟨hpB_f h, fun p hp => ?_⟩
  unfold hpB at h
  simp only [Bool.or_eq_false_iff, decide_eq_false_iff_not, List.any_eq_false, decide_eq_true_eq] at h
  have := h.2 p hp
  simp only [Bool.or_eq_true, decide_eq_true_eq] at this
  omega
theorem heavyF_light' {x : FldD} (h : heavyF x = false) : x.Light := by
  obtain ⟨h1, h2, h3, h4, h5⟩ := heavyF_f h
  exact ⟨h1, h2, h3, h4, h5⟩
theorem heavyL_light {x : LensD} (h : heavyL x = false) : x.Light := by
  unfold heavyL at h
  simp only [Bool.or_eq_false_iff, decide_eq_false_iff_not] at h
  obtain ⟨⟨⟨⟨⟨⟨h1, h2⟩, h3⟩, h4⟩, h5⟩, h6⟩, h7⟩ := h
  exact ⟨by omega, by omega, by omega, by omega, heavyF_light' h5, hpB_light h6, hpB_light h7⟩
section
variable {r : RdrD} (h : r.Ok)
include h
end
section
variable {r : RdrD}
end
theorem tab_read {t u : List PairD} (h : tabB t u = true) (h' : tabB u t = true) : t.length ≤ 6 ∧ ∀ p ∈ t, p.from_.length ≤ 12 ∧ p.to.length ≤ 12 := by
  have key : ∀ {t u : List PairD}, tabB t u = true → t.length ≤ 6 ∧ ∀ i (hi : i < t.length), nameB t[i].from_ = true ∧ (u.map PairD.from_).contains t[i].to = true := fun {t u} h => by
    unfold tabB at h
    simp only [Bool.and_eq_true, List.all_eq_true, List.mem_range, decide_eq_true_eq] at h
    refine ⟨by omega, fun i hi => ?_⟩
    have := h.2 i hi
    rw [okT_at hi] at this
    simp only [Bool.and_eq_true] at this
    exact ⟨this.1.1, this.2⟩
  obtain ⟨h1, h2⟩ := key h
  obtain ⟨h3, h4⟩ := key h'
  refine ⟨h1, fun p hp => ?_⟩; obtain ⟨i, hi, rfl⟩ := List.getElem_of_mem hp; obtain ⟨a, b⟩ := h2 i hi; rw [List.contains_iff_mem, List.mem_map] at b; obtain ⟨q, hq, e⟩ := b; obtain ⟨j, hj, rfl⟩ := List.getElem_of_mem hq; exact ⟨nameB_len a, by rw [← e]; exact nameB_len (h4 j hj).1⟩
theorem rightL_read {x : LensD} (h : rightL x = true) : (x.at_.group.length ≤ 12 ∧ x.at_.name.length ≤ 12) ∧ x.name.length ≤ 12 ∧ x.other.length ≤ 40 ∧ (x.forth.length ≤ 6 ∧ ∀ p ∈ x.forth, p.from_.length ≤ 12 ∧ p.to.length ≤ 12) ∧ (x.back.length ≤ 6 ∧ ∀ p ∈ x.back, p.from_.length ≤ 12 ∧ p.to.length ≤ 12) ∧ (if addsB x.kind then rightF x.field = true else x.field = zeroF) := by
  have htn := @nameB_len x.name; have hto := @nameB_len x.other
  have hp := @placeB_len x.at_
  have ht1 := @tab_read x.forth x.back; have ht2 := @tab_read x.back x.forth
  have hk1 := @tab_name x.forth x.back x.name; have hk2 := @tab_name x.back x.forth x.other
  have e0 : x.forth = [] → x.forth.length ≤ 6 ∧ ∀ p ∈ x.forth, p.from_.length ≤ 12 ∧ p.to.length ≤ 12 := fun h => by rw [h]; simp
  have e1 : x.back = [] → x.back.length ≤ 6 ∧ ∀ p ∈ x.back, p.from_.length ≤ 12 ∧ p.to.length ≤ 12 := fun h => by rw [h]; simp
  have e2 : x.name = [] → x.name.length ≤ 12 := fun h => by rw [h]; simp
  have e3 : x.other = [] → x.other.length ≤ 40 := fun h => by rw [h]; simp
  have e4 : x.at_ = ⟨0, [], []⟩ → x.at_.group.length ≤ 12 ∧ x.at_.name.length ≤ 12 := fun h => by rw [h]; simp
  rw [← right_eq] at h
  unfold rightV tabsL at h
  unfold addsB
  by_cases k2 : x.kind = 2 ∨ x.kind = 3
  · rw [if_pos k2] at h
    have e5 : (decide (x.kind = 2) || decide (x.kind = 3)) = true := by simpa using k2
    rw [e5, if_pos rfl]
    simp only [Bool.and_eq_true, decide_eq_true_eq, Bool.not_eq_true', Bool.or_eq_false_iff, decide_eq_false_iff_not, ne_eq, Classical.not_not] at h
    obtain ⟨⟨⟨⟨⟨h1, h2⟩, h3⟩, h4⟩, h5, h6⟩, h7⟩ := h
    exact ⟨e4 h1, e2 h2, e3 h3, e0 h5, e1 h6, h7⟩
  · rw [if_neg k2] at h
    have e5 : (decide (x.kind = 2) || decide (x.kind = 3)) = false := by simpa using k2
    rw [e5, if_neg (by decide)]
    split at h
    · cases h
    rename_i h0
    have hz : x.field = zeroF := Classical.byContradiction fun e => h0 (.inr e)
    have hpl := hp (by cases e : placeB x.at_ <;> simp_all)
    refine ⟨hpl, ?_⟩
    split at h
    · simp only [Bool.and_eq_true, decide_eq_true_eq] at h
      obtain ⟨⟨⟨⟨⟨⟨_, h1⟩, h2⟩, h3⟩, h4⟩, _⟩, _⟩ := h
      have := hto (hk2 h2 h4)
      exact ⟨htn (hk1 h1 h3), by omega, ht1 h1 h2, ht2 h2 h1, hz⟩
    · split at h
      · cases h
      rename_i h1
      simp only [Bool.or_eq_true, decide_eq_true_eq, not_or, ne_eq, Classical.not_not] at h1
      refine ⟨?_, ?_, e0 h1.1, e1 h1.2, hz⟩
      all_goals grind
structure EdgeD.Wf (e : EdgeD) : Prop where
  id1 : i64R e.id.rep
  id2 : i64R e.id.n
  par1 : i64R e.par.rep
  par2 : i64R e.par.n
  lens : e.lens.Wf
theorem edge_lens {e : EdgeD} (h : edgeB e = true) : rightL e.lens = true := by
  unfold edgeB at h
  simp only [Bool.and_eq_true] at h
  exact h.2
section
variable (b : List UInt8) (f a : Int)
end
section
variable {b : List UInt8} {f : Int} (hf : okF f = true)
include hf
end
end Go.Proofs.YtlapcfnmmpbeeaaGreat
