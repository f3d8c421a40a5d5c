/- Lenses applied to schemas, plain: there and back. No program in sight. -/
import Derived.Test.YtdgcbhihmnhnaaaBkA
namespace Go.Proofs.Ytdgcbhihmnhnaaa
set_option linter.unusedSimpArgs false
set_option linter.unusedVariables false
set_option maxRecDepth 100000
open Go.RowKit

structure App (l : List FldD) (x : LensD) (m : List FldD) : Prop where
  rl : rightS l = true
  rx : rightL x = true
  ok : (arrL l x).2 = true
  go : ∃ o, foldW (goesL x) l = some o ∧ foldP (arrL l x).1 o = some m
theorem app_of {l : List FldD} {x : LensD} (h : (applyL l x).2 = 0) : App l x (applyL l x).1 := by
  unfold applyL at h ⊢
  split at h
  · cases h
  rename_i h1
  split at h
  · cases h
  rename_i h2
  rw [if_neg h1, if_neg h2]
  cases hw : foldW (goesL x) l with
  | none => rw [hw] at h; cases h
  | some o =>
    rw [hw] at h
    simp only at h ⊢
    cases hp : foldP (arrL l x).1 o with
    | none => rw [hp] at h; cases h
    | some m => exact ⟨by simpa using fun q => h1 (.inl q), by simpa using fun q => h1 (.inr q), by simpa using h2, o, hw, hp⟩
theorem App.eq {l m : List FldD} {x : LensD} (h : App l x m) : applyL l x = (m, 0) := by
  obtain ⟨o, hw, hp⟩ := h.go
  unfold applyL
  rw [if_neg (by rintro (q | q); rw [h.rl] at q; cases q; rw [h.rx] at q; cases q), if_neg (by rw [h.ok]; decide), hw]
  simp only
  rw [hp]
theorem App.right {l m : List FldD} {x : LensD} (h : App l x m) : rightS m = true := by
  obtain ⟨o, hw, hp⟩ := h.go
  exact (foldP_ok (foldW_ok h.rl hw).1 hp).1
theorem fld_eta (f : FldD) : f = ⟨f.at_, f.kind, f.dflt, f.cases, f.worth⟩ := rfl
theorem eta_at {f : FldD} {r : RefD} (h : f.at_ = r) : (⟨⟨r.scope, r.group, r.name⟩, f.kind, f.dflt, f.cases, f.worth⟩ : FldD) = f := by subst h; rfl
theorem right_1 {f : FldD} (h : rightF f = true) (hk : f.kind = 1) : f = cntF f.at_ f.worth := by
  obtain ⟨a, k, d, c, w⟩ := f
  simp only at hk
  subst hk
  simp [rightF] at h
  simp [cntF, h]
theorem right_2 {f : FldD} (h : rightF f = true) (hk : f.kind = 2) : f = ⟨f.at_, 2, f.dflt, [], 0⟩ := by
  obtain ⟨a, k, d, c, w⟩ := f
  simp only at hk
  subst hk
  simp [rightF] at h
  simp [h]
theorem right_4 {f : FldD} (h : rightF f = true) (hk : f.kind = 4) : f = ⟨f.at_, 4, [], [], 0⟩ := by
  obtain ⟨a, k, d, c, w⟩ := f
  simp only at hk
  subst hk
  simp [rightF] at h
  simp [h]
theorem App.back {l m C C' : List FldD} {x : LensD} (h : App l x m) (hC : (arrL l x).1 = C) (hn : (goesL x).Nodup) (hg : goesL (invL x) = C.map FldD.at_) (hA : (∀ c ∈ C, findS m c.at_ = (c, 0)) → arrL m (invL x) = (C', true)) (hat : C'.map FldD.at_ = goesL x) (hl : ∀ f ∈ C', f ∈ l) : App m (invL x) l := by
  obtain ⟨o, hw, hp⟩ := h.go
  rw [hC] at hp
  obtain ⟨a1, a2, a3, a4⟩ := foldW_ok h.rl hw
  obtain ⟨b1, b2, b3, b4, b5⟩ := foldP_ok a1 hp
  obtain ⟨l1, l2, l3⟩ := (rightS_iff l).1 h.rl
  have hsm := ((rightS_iff m).1 b1).2.2
  have hA' := hA fun c hc => find_of hsm ((b4 c).2 (.inr hc))
  have hry := inv_right h.rx
  refine ⟨b1, hry, by rw [hA'], ?_⟩
  obtain ⟨o', ho'⟩ := foldW_does (rs := goesL (invL x)) b1 (by rw [hg]; exact b3) (fun r hr => by
    rw [hg] at hr
    obtain ⟨c, hc, rfl⟩ := List.mem_map.1 hr
    exact ⟨c, (b4 c).2 (.inr hc), rfl⟩)
  obtain ⟨c1, _, c3, _⟩ := foldW_ok b1 ho'
  have hoo : o' = o := srt_ext ((rightS_iff _).1 c1).2.2 ((rightS_iff _).1 a1).2.2 fun z => by
    rw [c3 z, b4 z, hg]
    constructor
    · rintro ⟨q | q, q2⟩
      · exact q
      · exact absurd (List.mem_map.2 ⟨z, q, rfl⟩) q2
    · intro q; refine ⟨.inl q, fun q2 => ?_⟩; obtain ⟨c, hc, e⟩ := List.mem_map.1 q2; exact (b2 c hc).2 z q e.symm
  subst hoo
  have hlen : C'.length = (goesL x).length := by rw [← hat]; simp
  obtain ⟨m', hm'⟩ := foldP_does (fs := C') a1 (fun f hf => ⟨l2 f (hl f hf), fun z hz e => ((a3 z).1 hz).2 (by rw [e, ← hat]; exact List.mem_map.2 ⟨f, hf, rfl⟩)⟩) (by rw [hat]; exact hn) (by omega)
  obtain ⟨d1, _, _, d4, _⟩ := foldP_ok a1 hm'
  have hml : m' = l := srt_ext ((rightS_iff _).1 d1).2.2 l3 fun z => by
    rw [d4 z, a3 z]
    constructor
    · rintro (q | q)
      · exact q.1
      · exact hl z q
    · intro q
      by_cases e : z.at_ ∈ goesL x
      · right
        rw [← hat] at e
        obtain ⟨g, hgm, ge⟩ := List.mem_map.1 e
        rwa [← mem_at l3 (hl g hgm) q ge]
      · exact .inl ⟨q, e⟩
  subst hml
  exact ⟨o', ho', by rw [hA']; exact hm'⟩
theorem arr_find {l : List FldD} {x : LensD} (h2 : ¬ x.kind = 2) (h3 : ¬ x.kind = 3) (h9 : ¬ x.kind = 9) (hok : (arrL l x).2 = true) : (findS l x.at_).2 = 0 ∧ arrL l x = oneL (findS l x.at_).1 x := by
  unfold arrL at hok ⊢
  rw [if_neg h2, if_neg h3, if_neg h9] at hok ⊢
  by_cases q : (findS l x.at_).2 = 0
  · rw [if_neg (fun e => e q)]; exact ⟨q, rfl⟩
  · rw [if_pos q] at hok; cases hok
theorem arr_one {m : List FldD} {y : LensD} {c : FldD} (h2 : ¬ y.kind = 2) (h3 : ¬ y.kind = 3) (h9 : ¬ y.kind = 9) (hf : findS m y.at_ = (c, 0)) : arrL m y = oneL c y := by
  unfold arrL
  rw [if_neg h2, if_neg h3, if_neg h9, hf]
  simp
theorem goes_at {x : LensD} (hx : rightL x = true) (h2 : ¬ x.kind = 2) (h3 : ¬ x.kind = 3) (h9 : ¬ x.kind = 9) : goesL x = [x.at_] := by
  unfold goesL
  rw [if_neg (by rw [hx]; decide), if_neg h2, if_neg h3, if_neg h9]
/-- There and back, where one field goes and one comes. -/
theorem App.one {l m : List FldD} {x : LensD} (h : App l x m) (h2 : ¬ x.kind = 2) (h3 : ¬ x.kind = 3) (h9 : ¬ x.kind = 9) (i2 : ¬ (invL x).kind = 2) (i3 : ¬ (invL x).kind = 3) (i9 : ¬ (invL x).kind = 9) {c : FldD} (hc : (oneL (findS l x.at_).1 x).1 = [c]) (hat : (invL x).at_ = c.at_) (hb : oneL c (invL x) = ([(findS l x.at_).1], true)) : App m (invL x) l := by
  obtain ⟨ha, e1⟩ := arr_find h2 h3 h9 h.ok
  obtain ⟨f1, f2⟩ := find_mem ha
  refine h.back (C := [c]) (C' := [(findS l x.at_).1]) (by rw [e1]; exact hc) (by rw [goes_at h.rx h2 h3 h9]; simp) (by rw [goes_at (inv_right h.rx) i2 i3 i9, hat]; rfl) (fun hf => ?_) (by rw [goes_at h.rx h2 h3 h9]; exact congrArg (fun z => [z]) f2) (fun f hf => by simp at hf; rw [hf]; exact f1); rw [arr_one i2 i3 i9 (by rw [hat]; exact hf c (by simp))]; exact hb
/-- There and back. -/
theorem App.inv {l m : List FldD} {x : LensD} (h : App l x m) : App m (invL x) l := by
  have hx := h.rx
  have hy := inv_right hx
  have hk := rightL_kind hx
  have hok := h.ok
  obtain ⟨l1, l2, l3⟩ := (rightS_iff l).1 h.rl
  have hv := hx
  rw [← right_eq] at hv
  have hc : x.kind = 1 ∨ x.kind = 2 ∨ x.kind = 3 ∨ x.kind = 4 ∨ x.kind = 5 ∨ x.kind = 6 ∨ x.kind = 7 ∨ x.kind = 8 ∨ x.kind = 9 ∨ x.kind = 10 := by omega
  rcases hc with k | k | k | k | k | k | k | k | k | k
  · -- Rename
    have ey : invL x = { x with at_ := { x.at_ with name := x.name }, name := x.at_.name } := by simp [invL, k]
    have ha := arr_find (by omega) (by omega) (by omega) hok
    obtain ⟨f1, f2⟩ := find_mem ha.1
    refine h.one (c := { (findS l x.at_).1 with at_ := besR x.at_ x.name }) (by omega) (by omega) (by omega) (by rw [ey]; simp [k]) (by rw [ey]; simp [k]) (by rw [ey]; simp [k]) (by simp [oneL, toR, k]) (by rw [ey]; rfl) ?_; rw [ey]; simp [oneL, toR, besR, k]; exact eta_at f2
  · -- Add
    have ey : invL x = { x with kind := 3 } := by simp [invL, k]
    have e1 : arrL l x = ([x.field], true) := by simp [arrL, k]
    have eg : goesL x = [] := by simp [goesL, k]
    refine h.back (C := [x.field]) (C' := []) (by rw [e1]) (by rw [eg]; simp) ?_ (fun hf => ?_) (by rw [eg]; rfl) (fun f hf => by cases hf)
    · have := hy; rw [ey] at this ⊢; unfold goesL; rw [this]; simp
    · rw [ey]
      have := hf x.field (by simp)
      simp [arrL, this]
  · -- Remove
    have ey : invL x = { x with kind := 2 } := by simp [invL, k]
    have e1 : (findS l x.field.at_).2 = 0 ∧ (findS l x.field.at_).1 = x.field := by
      unfold arrL at hok
      simp [k] at hok
      exact hok
    obtain ⟨f1, f2⟩ := find_mem e1.1
    have eg : goesL x = [x.field.at_] := by simp [goesL, hx, k]
    refine h.back (C := []) (C' := [x.field]) (by simp [arrL, k]) (by rw [eg]; simp) ?_ (fun hf => ?_) (by rw [eg]; rfl) (fun f hf => by simp at hf; rw [hf, ← e1.2]; exact f1)
    · have := hy; rw [ey] at this ⊢; unfold goesL; rw [this]; simp
    · rw [ey]; simp [arrL]
  · -- Hoist
    have ey : invL x = { x with kind := 5, at_ := { x.at_ with group := [] }, name := x.at_.group } := by simp [invL, k]
    have ha := arr_find (by omega) (by omega) (by omega) hok
    obtain ⟨f1, f2⟩ := find_mem ha.1
    refine h.one (c := { (findS l x.at_).1 with at_ := ⟨x.at_.scope, [], x.at_.name⟩ }) (by omega) (by omega) (by omega) (by rw [ey]; simp) (by rw [ey]; simp) (by rw [ey]; simp) (by simp [oneL, toR, k]) (by rw [ey]) ?_; rw [ey]; simp [oneL, toR]; exact eta_at f2
  · -- Plunge
    have hg : x.at_.group = [] := by
      unfold rightV at hv
      simp [k] at hv
      grind
    have ey : invL x = { x with kind := 4, at_ := { x.at_ with group := x.name }, name := [] } := by simp [invL, k]
    have ha := arr_find (by omega) (by omega) (by omega) hok
    obtain ⟨f1, f2⟩ := find_mem ha.1
    refine h.one (c := { (findS l x.at_).1 with at_ := ⟨x.at_.scope, x.name, x.at_.name⟩ }) (by omega) (by omega) (by omega) (by rw [ey]; simp) (by rw [ey]; simp) (by rw [ey]; simp) (by simp [oneL, toR, k]) (by rw [ey]) ?_; rw [ey]; simp [oneL, toR]
    have e := eta_at f2
    rw [hg] at e
    exact e
  · -- Split
    have ey : invL x = { x with kind := 9 } := by simp [invL, k]
    have ha := arr_find (by omega) (by omega) (by omega) hok
    obtain ⟨f1, f2⟩ := find_mem ha.1
    have hok2 := hok
    rw [ha.2] at hok2
    simp [oneL, k] at hok2
    have hf := right_1 (l2 _ f1) hok2
    have eg : goesL x = [x.at_] := goes_at hx (by omega) (by omega) (by omega)
    refine h.back (C := [cntF (besR x.at_ x.name) (findS l x.at_).1.worth, cntF (besR x.at_ x.other) ((findS l x.at_).1.worth * x.factor)]) (C' := [(findS l x.at_).1]) (by rw [ha.2]; simp [oneL, k]) (by rw [eg]; simp) ?_ (fun hf2 => ?_) (by rw [eg]; exact congrArg (fun z => [z]) f2) (fun f hf => by simp at hf; rw [hf]; exact f1)
    · have := hy; rw [ey] at this ⊢; unfold goesL; rw [this]; simp [cntF, besR]
    · have g1 := hf2 (cntF (besR x.at_ x.name) (findS l x.at_).1.worth) (by simp)
      have g2 := hf2 (cntF (besR x.at_ x.other) ((findS l x.at_).1.worth * x.factor)) (by simp)
      rw [ey]
      unfold arrL
      rw [if_neg (by simp), if_neg (by simp), if_pos (by simp)]
      unfold mergL
      simp only [cntF] at g1 g2
      simp only [g1, g2]
      rw [if_neg (by simp), if_neg (by simp)]
      simp only [Prod.mk.injEq, List.cons.injEq, and_true]
      rw [f2] at hf
      exact hf.symm
  · -- Wrap
    have ey : invL x = { x with kind := 10 } := by simp [invL, k]
    have ha := arr_find (by omega) (by omega) (by omega) hok
    obtain ⟨f1, f2⟩ := find_mem ha.1
    have hok2 := hok
    rw [ha.2] at hok2
    simp [oneL, k] at hok2
    have hf := right_2 (l2 _ f1) hok2.1
    refine h.one (c := ⟨x.at_, 4, [], [], 0⟩) (by omega) (by omega) (by omega) (by rw [ey]; simp) (by rw [ey]; simp) (by rw [ey]; simp) (by simp [oneL, k]) (by rw [ey]) ?_; rw [ey]; simp [oneL]; rw [f2, hok2.2] at hf; exact hf.symm
  · -- Convert
    have ey : invL x = { x with name := x.other, other := x.name, forth := x.back, back := x.forth } := by simp [invL, k]
    have ha := arr_find (by omega) (by omega) (by omega) hok
    obtain ⟨f1, f2⟩ := find_mem ha.1
    have hok2 := hok
    rw [ha.2] at hok2
    simp [oneL, k] at hok2
    refine h.one (c := ⟨x.at_, 3, x.other, x.back.map PairD.from_, 0⟩) (by omega) (by omega) (by omega) (by rw [ey]; simp [k]) (by rw [ey]; simp [k]) (by rw [ey]; simp [k]) (by simp [oneL, k]) (by rw [ey]) ?_; rw [ey]; simp [oneL, k]; exact hok2.symm
  · -- Merge
    have ey : invL x = { x with kind := 6 } := by simp [invL, k]
    have hne : ¬ x.name = x.other := by
      unfold rightV at hv
      simp [k] at hv
      grind
    have e0 : arrL l x = mergL l x := by simp [arrL, k]
    rw [e0] at hok
    have hok2 := hok
    unfold mergL at hok2
    by_cases q1 : (findS l (besR x.at_ x.name)).2 ≠ 0 ∨ (findS l (besR x.at_ x.name)).1.kind ≠ 1
    · rw [if_pos q1] at hok2; cases hok2
    rw [if_neg q1] at hok2
    by_cases q2 : (findS l (besR x.at_ x.other)).2 ≠ 0 ∨ (findS l (besR x.at_ x.other)).1.kind ≠ 1 ∨ (findS l (besR x.at_ x.other)).1.worth ≠ (findS l (besR x.at_ x.name)).1.worth * x.factor
    · rw [if_pos q2] at hok2; cases hok2
    have e1 : arrL l x = ([cntF x.at_ (findS l (besR x.at_ x.name)).1.worth], true) := by rw [e0]; unfold mergL; rw [if_neg q1, if_neg q2]
    simp only [not_or, ne_eq, Decidable.not_not] at q1 q2
    obtain ⟨u1, u2⟩ := find_mem q1.1
    obtain ⟨p1, p2⟩ := find_mem q2.1
    have hu := right_1 (l2 _ u1) q1.2
    have hp := right_1 (l2 _ p1) q2.2.1
    rw [u2] at hu
    rw [p2, q2.2.2] at hp
    have eg : goesL x = [besR x.at_ x.name, besR x.at_ x.other] := by simp [goesL, hx, k]
    refine h.back (C := [cntF x.at_ (findS l (besR x.at_ x.name)).1.worth]) (C' := [(findS l (besR x.at_ x.name)).1, (findS l (besR x.at_ x.other)).1]) (by rw [e1]) (by rw [eg]; simp [besR, hne]) ?_ (fun hf2 => ?_) (by rw [eg]; simp [u2, p2]) (fun f hf => by simp at hf; rcases hf with hf | hf <;> rw [hf] <;> assumption)
    · rw [goes_at hy (by rw [ey]; simp) (by rw [ey]; simp) (by rw [ey]; simp), ey]; rfl
    · have g1 := hf2 (cntF x.at_ (findS l (besR x.at_ x.name)).1.worth) (by simp)
      rw [arr_one (c := cntF x.at_ (findS l (besR x.at_ x.name)).1.worth) (by rw [ey]; simp) (by rw [ey]; simp) (by rw [ey]; simp) (by rw [ey]; exact g1), ey]
      unfold oneL
      rw [if_pos (by simp)]
      simp only [Prod.mk.injEq, List.cons.injEq, and_true]
      exact ⟨⟨hu.symm, hp.symm⟩, by simp [cntF]⟩
  · -- Unwrap
    have ey : invL x = { x with kind := 7 } := by simp [invL, k]
    have ha := arr_find (by omega) (by omega) (by omega) hok
    obtain ⟨f1, f2⟩ := find_mem ha.1
    have hok2 := hok
    rw [ha.2] at hok2
    simp [oneL, k] at hok2
    have hf := right_4 (l2 _ f1) hok2
    refine h.one (c := ⟨x.at_, 2, x.other, [], 0⟩) (by omega) (by omega) (by omega) (by rw [ey]; simp) (by rw [ey]; simp) (by rw [ey]; simp) (by simp [oneL, k]) (by rw [ey]) ?_; rw [ey]; simp [oneL]; rw [f2] at hf; exact hf.symm
theorem apply_back {l : List FldD} {x : LensD} (h : (applyL l x).2 = 0) : applyL (applyL l x).1 (invL x) = (l, 0) := (app_of h).inv.eq
end Go.Proofs.Ytdgcbhihmnhnaaa
