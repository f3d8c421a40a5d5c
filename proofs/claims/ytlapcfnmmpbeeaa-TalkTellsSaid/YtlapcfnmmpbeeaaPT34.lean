/- A part of a proof. -/
import Derived.Test.YtlapcfnmmpbeeaaPT32
set_option linter.unusedSimpArgs false
set_option linter.unusedVariables false
namespace Go.Proofs.Ytlapcfnmmpbeeaa
set_option maxRecDepth 100000
open Go.RowKit
def zeroF : FldD := ⟨⟨0, [], []⟩, 0, [], [], 0⟩
structure FldD.Wf (x : FldD) : Prop where
  scope : i64R x.at_.scope
  kind : i64R x.kind
  worth : i64R x.worth
structure FldD.Light (x : FldD) : Prop where
  group : x.at_.group.length ≤ 200
  name : x.at_.name.length ≤ 200
  dflt : x.dflt.length ≤ 200
  cases : x.cases.length ≤ 20
  case : ∀ c ∈ x.cases, c.length ≤ 200
def pf1 (f : Int) (x : FldD) : List UInt8 := refP f x.at_
def pf2 (f : Int) (x : FldD) : List UInt8 := pf1 f x ++ putN f x.kind
def pf3 (f : Int) (x : FldD) : List UInt8 := pf2 f x ++ textP f x.dflt
def pf4 (f : Int) (x : FldD) : List UInt8 := pf3 f x ++ putN f (x.cases.length : Nat)
def pf5 (f : Int) (x : FldD) (k : Nat) : List UInt8 := pf4 f x ++ (x.cases.take k).flatMap (textP f)
def putF (f : Int) (x : FldD) : List UInt8 := pf5 f x x.cases.length ++ putN f x.worth
theorem pf5_0 (f : Int) (x : FldD) : pf5 f x 0 = pf4 f x := by unfold pf5; simp
theorem pf5_s {f : Int} {x : FldD} {k : Nat} (hk : k < x.cases.length) : pf5 f x (k + 1) = pf5 f x k ++ textP f x.cases[k] := by
  unfold pf5
  rw [← List.take_append_getElem hk, List.flatMap_append]; simp
theorem pf5_len {f : Int} {x : FldD} (h : x.Light) (k : Nat) : (pf4 f x).length ≤ 700 ∧ (pf5 f x k).length ≤ 700 + 210 * k := by
  have a1 := refP_len f x.at_; have a2 := putN_len f x.kind; have a3 := textP_len f x.dflt; have a4 := putN_len f (x.cases.length : Nat)
  have h1 := h.group; have h2 := h.name; have h3 := h.dflt
  have hd : ∀ l : List Bytes, (∀ c ∈ l, c.length ≤ 200) → (l.flatMap (textP f)).length ≤ 210 * l.length := fun l => by
    induction l with
    | nil => intro _; simp
    | cons t l ih =>
      intro hl
      have := textP_len f t; have := hl t (by simp); have := ih (fun c hc => hl c (by simp [hc]))
      simp only [List.flatMap_cons, List.length_append, List.length_cons]; omega
  have := hd (x.cases.take k) (fun c hc => h.case c (List.mem_of_mem_take hc))
  have ht : (x.cases.take k).length ≤ k := by rw [List.length_take]; omega
  unfold pf5 pf4 pf3 pf2 pf1
  simp only [List.length_append]
  omega
theorem putF_len {f : Int} {x : FldD} (h : x.Light) : (putF f x).length ≤ 5000 := by
  have := (pf5_len (f := f) h x.cases.length).2
  have := h.cases; have := putN_len f x.worth
  unfold putF; rw [List.length_append]; omega
def casesP : Nat → RdrD → List Bytes × RdrD
  | 0, r => ([], r)
  | n + 1, r => ((casesP n r).1 ++ [(rtextP (casesP n r).2 12).1], (rtextP (casesP n r).2 12).2)
def u1 (r : RdrD) : RdrD := (rrefP r).2
def u2 (r : RdrD) : RdrD := (numP (u1 r)).2
def u3 (r : RdrD) : RdrD := (rtextP (u2 r) 40).2
def u4 (r : RdrD) : RdrD := (countP (u3 r) 6).2
def un (r : RdrD) : Nat := (countP (u3 r) 6).1.toNat
def u5 (r : RdrD) : RdrD := (casesP (un r) (u4 r)).2
def u6 (r : RdrD) : RdrD := (numP (u5 r)).2
def rawF (r : RdrD) : FldD := ⟨(rrefP r).1, (numP (u1 r)).1, (rtextP (u2 r) 40).1, (casesP (un r) (u4 r)).1, (numP (u5 r)).1⟩
def getF (r : RdrD) : FldD × RdrD := if badP (u6 r) = false ∧ rightF (rawF r) = true then (rawF r, u6 r) else (zeroF, spoilP (u6 r))
theorem casesP_ok {r : RdrD} (h : r.Ok) : ∀ n, r.Of (casesP n r).2 ∧ (casesP n r).1.length = n
  | 0 => ⟨h.of, rfl⟩
  | n + 1 => by
    obtain ⟨a, b⟩ := casesP_ok h n
    exact ⟨a.trans (a.ok.text 12), by rw [casesP, List.length_append, b]; rfl⟩
section
variable {r : RdrD} (h : r.Ok)
include h
theorem u1_ok : r.Of (u1 r) := h.ref
theorem u2_ok : r.Of (u2 r) := (u1_ok h).trans (u1_ok h).ok.num
theorem u3_ok : r.Of (u3 r) := (u2_ok h).trans ((u2_ok h).ok.text 40)
theorem u4_ok : r.Of (u4 r) := (u3_ok h).trans ((u3_ok h).ok.count 6)
theorem u5_ok : r.Of (u5 r) := (u4_ok h).trans (casesP_ok (u4_ok h).ok _).1
theorem u6_ok : r.Of (u6 r) := (u5_ok h).trans (u5_ok h).ok.num
theorem getF_ok : r.Of (getF r).2 := by
  unfold getF
  split
  · exact u6_ok h
  exact (u6_ok h).trans (u6_ok h).ok.spoil
end
theorem bad_cases {r : RdrD} (h : badP r = true) : ∀ n, badP (casesP n r).2 = true
  | 0 => h
  | n + 1 => badt (by omega) (bad_cases h n)
theorem getF_no {r : RdrD} (h : badP (u6 r) = true ∨ rightF (rawF r) = false) : (getF r).1 = zeroF ∧ badP (getF r).2 = true := by
  unfold getF
  rw [if_neg (by rintro ⟨a, b⟩; rcases h with h | h <;> simp_all)]
  exact ⟨rfl, rfl⟩
section
variable {r : RdrD}
theorem b5 (h : badP (u5 r) = true) : badP (u6 r) = true := badn h
theorem b4 (h : badP (u4 r) = true) : badP (u6 r) = true := b5 (bad_cases h _)
theorem b3 (h : badP (u3 r) = true) : badP (u6 r) = true := b4 (bad_count h (by omega))
theorem b2 (h : badP (u2 r) = true) : badP (u6 r) = true := b3 (badt (by omega) h)
theorem b1 (h : badP (u1 r) = true) : badP (u6 r) = true := b2 (badn h)
theorem b0 (h : badP r = true) : badP (u6 r) = true := b1 (bad_ref h)
end
theorem rightF_read {x : FldD} (h : rightF x = true) : (x.at_.group.length ≤ 12 ∧ x.at_.name.length ≤ 12) ∧ x.dflt.length ≤ 40 ∧ x.cases.length ≤ 6 ∧ (∀ c ∈ x.cases, c.length ≤ 12) ∧ 1 ≤ x.kind ∧ x.kind ≤ 4 := by
  unfold rightF at h
  rw [Bool.and_eq_true] at h
  obtain ⟨hp, h⟩ := h
  have hpl := placeB_len hp
  have e0 : ∀ l : List Bytes, (l == []) = true → l.length ≤ 6 ∧ ∀ c ∈ l, c.length ≤ 12 := fun l h => by
    obtain rfl := eq_of_beq h
    exact ⟨by simp, fun c hc => by simp at hc⟩
  split at h
  · rename_i hk
    simp only [Bool.and_eq_true] at h
    obtain ⟨⟨⟨h1, h2⟩, _⟩, _⟩ := h
    have := eq_of_beq h1
    exact ⟨hpl, by rw [this]; simp, (e0 _ h2).1, (e0 _ h2).2, by omega, by omega⟩
  split at h
  · rename_i hk
    simp only [Bool.and_eq_true, decide_eq_true_eq] at h
    exact ⟨hpl, h.1.1, (e0 _ h.1.2).1, (e0 _ h.1.2).2, by omega, by omega⟩
  split at h
  · rename_i hk
    simp only [Bool.and_eq_true] at h
    obtain ⟨⟨h1, h2⟩, _⟩ := h
    unfold casesB at h1
    simp only [Bool.and_eq_true, decide_eq_true_eq, List.all_eq_true, List.mem_range] at h1
    have hc : ∀ c ∈ x.cases, c.length ≤ 12 := fun c hc => by
      obtain ⟨i, hi, rfl⟩ := List.getElem_of_mem hc
      have := (h1.2 i hi).1
      rw [List.getD_eq_getElem?_getD, List.getElem?_eq_getElem hi] at this
      exact nameB_len this
    have := hc _ (List.contains_iff_mem.1 h2)
    exact ⟨hpl, by omega, h1.1.2, hc, by omega, by omega⟩
  split at h
  · rename_i hk
    simp only [Bool.and_eq_true] at h
    obtain ⟨⟨h1, h2⟩, _⟩ := h
    have := eq_of_beq h1
    exact ⟨hpl, by rw [this]; simp, (e0 _ h2).1, (e0 _ h2).2, by omega, by omega⟩
  cases h
theorem cases_at {r : RdrD} {f : Int} {pre suf : List UInt8} {cs : List Bytes} (h : r.At f pre (cs.flatMap (textP f) ++ suf)) (hl : ∀ c ∈ cs, c.length ≤ 200) : ∀ k, k ≤ cs.length → ((∀ c ∈ cs.take k, c.length ≤ 12) → (casesP k r).1 = cs.take k ∧ (casesP k r).2.At f (pre ++ (cs.take k).flatMap (textP f)) ((cs.drop k).flatMap (textP f) ++ suf)) ∧ (¬ (∀ c ∈ cs.take k, c.length ≤ 12) → badP (casesP k r).2 = true)
  | 0, _ => ⟨fun _ => ⟨rfl, by simpa [casesP] using h⟩, fun h => (h (by simp)).elim⟩
  | k + 1, hk => by
    obtain ⟨i1, i2⟩ := cases_at h hl k (by omega)
    have e : cs.take (k + 1) = cs.take k ++ [cs[k]] := (List.take_append_getElem (by omega)).symm
    have hck := hl _ (List.getElem_mem (show k < cs.length by omega))
    by_cases g : ∀ c ∈ cs.take k, c.length ≤ 12
    · obtain ⟨a, b⟩ := i1 g
      rw [List.drop_eq_getElem_cons (by omega), List.flatMap_cons, List.append_assoc] at b
      obtain ⟨t1, t2⟩ := text_at b (by omega) (most := 12)
      by_cases g2 : cs[k].length ≤ 12
      · obtain ⟨c, d⟩ := t1 (by omega)
        refine ⟨fun _ => ⟨by rw [casesP, a, c, e], ?_⟩, fun hn => (hn fun c hc => ?_).elim⟩
        · rw [e, List.flatMap_append]
          rw [List.append_assoc] at d
          simpa [casesP] using d
        rw [e, List.mem_append, List.mem_singleton] at hc
        rcases hc with hc | rfl
        · exact g c hc
        exact g2
      refine ⟨fun hn => (g2 (hn _ (by rw [e]; exact List.mem_append_right _ (List.mem_singleton.2 rfl)))).elim, fun _ => t2 (by omega)⟩
    refine ⟨fun hn => (g fun c hc => hn c (by rw [e]; exact List.mem_append_left _ hc)).elim, fun _ => badt (by omega) (i2 g)⟩
theorem fld_at {r : RdrD} {f : Int} {pre suf : List UInt8} {x : FldD} (h0 : r.At f pre (putF f x ++ suf)) (hw : x.Wf) (hl : x.Light) : (rightF x = true → (getF r).1 = x ∧ (getF r).2.At f (pre ++ putF f x) suf) ∧ (rightF x = false → badP (getF r).2 = true) := by
  have c1 := hl.group; have c2 := hl.name; have c3 := hl.dflt; have c4 := hl.cases
  have fail : badP (u6 r) = true → (rightF x = true → False) → (rightF x = true → (getF r).1 = x ∧ (getF r).2.At f (pre ++ putF f x) suf) ∧ (rightF x = false → badP (getF r).2 = true) := fun hb hn => ⟨fun h => (hn h).elim, fun _ => (getF_no (.inl hb)).2⟩
  have h0 : r.At f pre (refP f x.at_ ++ (putN f x.kind ++ (textP f x.dflt ++ (putN f (x.cases.length : Nat) ++ (x.cases.flatMap (textP f) ++ (putN f x.worth ++ suf)))))) := by
    have e : putF f x ++ suf = refP f x.at_ ++ (putN f x.kind ++ (textP f x.dflt ++ (putN f (x.cases.length : Nat) ++ (x.cases.flatMap (textP f) ++ (putN f x.worth ++ suf))))) := by
      unfold putF pf5 pf4 pf3 pf2 pf1
      simp only [List.append_assoc, List.take_length]
    rw [← e]; exact h0
  obtain ⟨t1, t1'⟩ := ref_at h0 hw.scope (by omega) (by omega)
  by_cases g1 : x.at_.group.length ≤ 12 ∧ x.at_.name.length ≤ 12
  case neg => exact fail (b1 (t1' (by omega))) fun h => g1 (rightF_read h).1
  obtain ⟨v1, h1⟩ := t1 g1
  obtain ⟨v2, h2⟩ := num_at h1 hw.kind
  obtain ⟨t3, t3'⟩ := text_at h2 (by omega) (most := 40)
  by_cases g3 : x.dflt.length ≤ 40
  case neg => exact fail (b3 (t3' (by omega))) fun h => g3 (rightF_read h).2.1
  obtain ⟨v3, h3⟩ := t3 (by omega)
  obtain ⟨t4, t4'⟩ := count_at h3 (by omega) (most := 6)
  by_cases g4 : x.cases.length ≤ 6
  case neg => exact fail (b4 (t4' (by omega))) fun h => g4 (rightF_read h).2.2.1
  obtain ⟨v4, h4⟩ := t4 (by omega)
  obtain ⟨t5, t5'⟩ := cases_at h4 hl.case x.cases.length (Nat.le_refl _)
  have en : un r = x.cases.length := by unfold un; exact (congrArg Int.toNat v4).trans (Int.toNat_natCast _)
  by_cases g5 : ∀ c ∈ x.cases.take x.cases.length, c.length ≤ 12
  case neg => exact fail (b5 (by unfold u5; rw [en]; exact t5' g5)) fun h => g5 (by rw [List.take_length]; exact (rightF_read h).2.2.2.1)
  obtain ⟨v5, h5⟩ := t5 g5
  rw [List.drop_length, List.flatMap_nil, List.nil_append] at h5
  obtain ⟨v6, h6⟩ := num_at h5 hw.worth
  have hq : (u6 r).At f (pre ++ putF f x) suf := by
    have ep : pre ++ putF f x = pre ++ refP f x.at_ ++ putN f x.kind ++ textP f x.dflt ++ putN f (x.cases.length : Nat) ++ (x.cases.take x.cases.length).flatMap (textP f) ++ putN f x.worth := by
      unfold putF pf5 pf4 pf3 pf2 pf1
      simp only [List.append_assoc]
    rw [ep]
    unfold u6 u5
    rw [en]; exact h6
  have er : rawF r = x := by
    rw [List.take_length] at v5
    have w1 : (rrefP r).1 = x.at_ := v1
    have w2 : (numP (u1 r)).1 = x.kind := v2
    have w3 : (rtextP (u2 r) 40).1 = x.dflt := v3
    have w5 : (casesP (un r) (u4 r)).1 = x.cases := by rw [en]; exact v5
    have w6 : (numP (u5 r)).1 = x.worth := by unfold u5; rw [en]; exact v6
    unfold rawF
    rw [w1, w2, w3, w5, w6]
  refine ⟨fun h => ?_, fun h => (getF_no (.inr (by rw [er]; exact h))).2⟩
  unfold getF
  rw [if_pos ⟨hq.nb, by rw [er]; exact h⟩, er]
  exact ⟨rfl, hq⟩
section
variable (b : List UInt8) (f a : Int)
def y1 := rd8 b a f (askT 5 0)
def y2 := rd8 b (y1 b f a).2.1 f (askT 0 0)
def y3 := rd8 b (y2 b f a).2.1 f (askT 1 40)
def y4 := rd8 b (y3 b f a).2.1 f (askT 6 6)
def cst : Nat → List Bytes × Int × Bool
  | 0 => ([], (y4 b f a).2.1, true)
  | j + 1 => ((cst j).1 ++ [(rd8 b (cst j).2.1 f (askT 1 12)).1.s], (rd8 b (cst j).2.1 f (askT 1 12)).2.1, (cst j).2.2 && (rd8 b (cst j).2.1 f (askT 1 12)).2.2)
def yn : Nat := (y4 b f a).1.n.toNat
def y6 := rd8 b (cst b f a (yn b f a)).2.1 f (askT 0 0)
end
section
variable {b : List UInt8} {f : Int} (hf : okF f = true)
include hf
end
end Go.Proofs.Ytlapcfnmmpbeeaa
