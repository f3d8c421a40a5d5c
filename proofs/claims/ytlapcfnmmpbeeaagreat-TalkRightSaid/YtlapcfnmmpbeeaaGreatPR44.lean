/- Texts of the proof of talkRight_holds, put together by a program: TkR. -/
import Derived.Test.YtlapcfnmmpbeeaaGreatPR43
set_option linter.unusedSimpArgs false
set_option linter.unusedVariables false
namespace Go.Proofs.YtlapcfnmmpbeeaaGreat
set_option maxRecDepth 100000
open Go.RowKit
def RM.Le (M M' : RM) : Prop := ∀ b r, M b = some r → M' b = some r
theorem RM.Le.refl (M : RM) : RM.Le M M := fun _ _ h => h
theorem RM.Le.trans {A B C : RM} (h : RM.Le A B) (k : RM.Le B C) : RM.Le A C := fun b r hb => k b r (h b r hb)
theorem RM.Le.new {M : RM} {b : Nat} (r : TypeId × Array Value) (h : M b = none) : RM.Le M (M.set b r) := fun j r' hj => by
  have e : j ≠ b := fun e => by subst e; rw [h] at hj; cases hj
  rw [RM.set_ne M r e]; exact hj
theorem RawS.le {M M' : RM} {v : Value} {x : AV} (h : RawS M v x) (k : RM.Le M M') : RawS M' v x := by
  induction h with
  | sc v => exact .sc v
  | sl0 A c hc => exact .sl0 A c hc
  | sl1 b n c sz T vs xs U hn h0 hnc hc hsz hb hl hv h1 hr ih => exact .sl1 b n c sz T vs xs U hn h0 hnc hc hsz (k _ _ hb) hl hv h1 ih
def Mt (M : RM) (z y : AV) : Prop := (z = .sl [] ∧ y = .sl []) ∨ ∃ u, z = .sc u ∧ u.oneCell' = true ∧ RawS M u y
theorem Mt.le {M M' : RM} {z y : AV} (h : Mt M z y) (k : RM.Le M M') : Mt M' z y := by
  rcases h with h | ⟨u, h1, h2, h3⟩
  · exact .inl h
  · exact .inr ⟨u, h1, h2, h3.le k⟩
theorem Mt.sc {M : RM} {u : Value} (h : u.oneCell' = true) : Mt M (.sc u) (.sc u) := .inr ⟨u, rfl, h, .sc u⟩
inductive MtL (M : RM) : List AV → List AV → Prop
  | nil : MtL M [] []
  | cons {z y : AV} {l m : List AV} (h : Mt M z y) (t : MtL M l m) : MtL M (z :: l) (y :: m)
theorem MtL.le {M M' : RM} {l m : List AV} (h : MtL M l m) (k : RM.Le M M') : MtL M' l m := by
  induction h with
  | nil => exact .nil
  | cons h _ ih => exact .cons (h.le k) ih
theorem MtL.len {M : RM} {l m : List AV} (h : MtL M l m) : l.length = m.length := by
  induction h with
  | nil => rfl
  | cons _ _ ih => simp [ih]
theorem MtL.get {M : RM} {l m : List AV} (h : MtL M l m) : ∀ {j : Nat} {y : AV}, m[j]? = some y → ∃ z, l[j]? = some z ∧ Mt M z y := by
  induction h with
  | nil => intro j y hj; cases hj
  | cons h _ ih =>
    intro j y hj
    cases j with
    | zero => injection hj with hj; subst hj; exact ⟨_, rfl, h⟩
    | succ j => exact ih hj
theorem MtL.self {M : RM} : ∀ {l : List AV}, (∀ x ∈ l, ∃ u, x = .sc u ∧ u.oneCell' = true) → MtL M l l
  | [], _ => .nil
  | x :: l, h => by
    obtain ⟨u, rfl, hu⟩ := h x (by simp)
    exact .cons (.sc hu) (MtL.self fun y hy => h y (by simp [hy]))
theorem RawS.of_rows {M : RM} {b c sz : Nat} {T : TypeId} {vs : Array Value} {xs ys : List (List AV)} (hlen : xs.length = ys.length) (h0 : 0 < xs.length) (hm : c ≤ maxLen) (hl : xs.length ≤ c) (hsz : 0 < sz) (hn : ∀ (i : Nat) (cs : List AV), xs[i]? = some cs → cs.length = sz) (hc : ∀ (i : Nat) (cs : List AV) (j : Nat) (u : Value), xs[i]? = some cs → cs[j]? = some (.sc u) → vs[i * sz + j]? = some u) (hz : ∀ (i : Nat) (cs : List AV) (j : Nat), xs[i]? = some cs → cs[j]? = some (.sl []) → ∃ A c, vs[i * sz + j]? = some (.slice A 0 c) ∧ c ≤ maxLen) (hb : M b = none) (hmt : ∀ (i : Nat) (cs ds : List AV), xs[i]? = some cs → ys[i]? = some ds → MtL M cs ds) : RawS (M.set b (T, vs)) (.slice (some ⟨b, 0, none⟩) xs.length c) (.sl ys) := by
  have key : ∀ i j, i < xs.length → j < sz → ∃ u, vs[i * sz + j]? = some u ∧ u.oneCell' = true ∧ ∀ ds y, ys[i]? = some ds → ds[j]? = some y → RawS (M.set b (T, vs)) u y := fun i j hi hj => by
    have hx : xs[i]? = some xs[i] := List.getElem?_eq_getElem hi
    have hy : ys[i]? = some (ys[i]'(by omega)) := List.getElem?_eq_getElem (by omega)
    have hml := hmt i _ _ hx hy
    have hcl := hn i _ hx
    have hjy : j < (ys[i]'(by omega)).length := by rw [← hml.len]; omega
    obtain ⟨z, hz1, hz2⟩ := hml.get (List.getElem?_eq_getElem hjy)
    rcases hz2 with ⟨rfl, e⟩ | ⟨u, rfl, hu, hr⟩
    · obtain ⟨A, c', h1, h2⟩ := hz i _ j hx hz1
      refine ⟨_, h1, rfl, fun ds y h3 h4 => ?_⟩; rw [hy] at h3; injection h3 with h3; subst h3; rw [List.getElem?_eq_getElem hjy] at h4; injection h4 with h4; rw [← h4, e]; exact .sl0 A c' h2
    · refine ⟨u, hc i _ j u hx hz1, hu, fun ds y h3 h4 => ?_⟩; rw [hy] at h3; injection h3 with h3; subst h3; rw [List.getElem?_eq_getElem hjy] at h4; injection h4 with h4; rw [← h4]; exact hr.le (RM.Le.new _ hb)
  have hU : ∀ i j, i < xs.length → j < sz → vs[i * sz + j]? = some (if ((vs[i * sz + j]?).getD (.bool false)).oneCell' = true then (vs[i * sz + j]?).getD (.bool false) else .bool false) := fun i j hi hj => by
    obtain ⟨u, h1, h2, _⟩ := key i j hi hj
    rw [h1]; simp [h2]
  refine .sl1 b xs.length c sz T vs ys (fun i j => if ((vs[i * sz + j]?).getD (.bool false)).oneCell' = true then (vs[i * sz + j]?).getD (.bool false) else .bool false) hlen.symm h0 hl hm hsz (RM.set_self _ _ _) (fun i ds hd => ?_) (fun i j hi hj => hU i j (by omega) hj) (fun i j => ?_) (fun i j ds y hd hy => ?_)
  · have hi : i < xs.length := by rw [hlen]; exact (List.getElem?_eq_some_iff.1 hd).1
    rw [← (hmt i _ _ (List.getElem?_eq_getElem hi) hd).len]
    exact hn i _ (List.getElem?_eq_getElem hi)
  · split
    · assumption
    · rfl
  · have hi : i < xs.length := by rw [hlen]; exact (List.getElem?_eq_some_iff.1 hd).1
    have hj : j < sz := by
      rw [← hn i _ (List.getElem?_eq_getElem hi), (hmt i _ _ (List.getElem?_eq_getElem hi) hd).len]
      exact (List.getElem?_eq_some_iff.1 hy).1
    obtain ⟨u, h1, h2, h3⟩ := key i j hi hj
    rw [h1]
    simp only [Option.getD_some, h2, if_true]
    exact h3 ds y hd hy
theorem RawS.inv {M : RM} {v : Value} {ys : List (List AV)} (h : RawS M v (.sl ys)) : ∃ A c, v = .slice A ys.length c ∧ c ≤ maxLen ∧ (0 < ys.length → ∃ (b sz : Nat) (T : TypeId) (vs : Array Value), A = some ⟨b, 0, none⟩ ∧ M b = some (T, vs) ∧ (∀ (i : Nat) (cs : List AV), ys[i]? = some cs → cs.length = sz) ∧ ∀ (i j : Nat) (cs : List AV) (y : AV), ys[i]? = some cs → cs[j]? = some y → ∃ u, vs[i * sz + j]? = some u ∧ u.oneCell' = true ∧ RawS M u y) := by
  generalize hx : AV.sl ys = x at h
  cases h with
  | sc v => cases hx
  | sl0 A c hc =>
    injection hx with hx
    subst hx
    exact ⟨A, c, rfl, hc, fun h => absurd h (by simp)⟩
  | sl1 b n c sz T vs xs U hn h0 hnc hc hsz hb hl hv h1 hr =>
    injection hx with hx
    subst hx
    subst hn
    refine ⟨_, c, rfl, hc, fun _ => ⟨b, sz, T, vs, rfl, hb, hl, fun i j cs y h2 h3 => ⟨U i j, hv i j (List.getElem?_eq_some_iff.1 h2).1 (by rw [← hl i cs h2]; exact (List.getElem?_eq_some_iff.1 h3).1), h1 i j, hr i j cs y h2 h3⟩⟩⟩
def Kin (d : Nat) (u u' : Value) : Prop := u' = u ∨ (∃ a a' : Int, u = .int .i64 a ∧ u' = .int .i64 a') ∨ ∃ s s' : ByteArray, u = .string s ∧ u' = .string s' ∧ s'.size ≤ s.size + d
def Kp (d : Nat) (M M' : RM) : Prop := ∀ b T vs, M b = some (T, vs) → ∃ vs', M' b = some (T, vs') ∧ vs'.size = vs.size ∧ ∀ (j : Nat) u, vs[j]? = some u → ∃ u', vs'[j]? = some u' ∧ Kin d u u'
theorem Kin.trans {d e : Nat} {a b c : Value} (h : Kin d a b) (k : Kin e b c) : Kin (d + e) a c := by
  rcases h with rfl | ⟨x, x', rfl, rfl⟩ | ⟨s, s', rfl, rfl, h⟩ <;> rcases k with rfl | ⟨y, y', k1, rfl⟩ | ⟨q, q', k1, rfl, k⟩
  · exact .inl rfl
  · exact .inr (.inl ⟨y, y', k1, rfl⟩)
  · exact .inr (.inr ⟨q, q', k1, rfl, by omega⟩)
  · exact .inr (.inl ⟨x, _, rfl, rfl⟩)
  · exact .inr (.inl ⟨x, _, rfl, rfl⟩)
  · cases k1
  · exact .inr (.inr ⟨s, _, rfl, rfl, by omega⟩)
  · cases k1
  · injection k1 with k1; subst k1; exact .inr (.inr ⟨s, _, rfl, rfl, by omega⟩)
theorem Kp.refl (M : RM) : Kp 0 M M := fun b T vs h => ⟨vs, h, rfl, fun j u hu => ⟨u, hu, .inl rfl⟩⟩
theorem Kp.trans {d e : Nat} {A B C : RM} (h : Kp d A B) (k : Kp e B C) : Kp (d + e) A C := fun b T vs hb => by
  obtain ⟨v1, h1, h2, h3⟩ := h b T vs hb
  obtain ⟨v2, k1, k2, k3⟩ := k b T v1 h1
  refine ⟨v2, k1, k2.trans h2, fun j u hu => ?_⟩; obtain ⟨u1, a1, a2⟩ := h3 j u hu; obtain ⟨u2, b1, b2⟩ := k3 j u1 a1; exact ⟨u2, b1, a2.trans b2⟩
theorem Kp.set {d : Nat} {M : RM} {b j : Nat} {T : TypeId} {vs : Array Value} {u u' : Value} (h : M b = some (T, vs)) (hu : vs[j]? = some u) (hk : Kin d u u') : Kp d M (M.set b (T, vs.setIfInBounds j u')) := fun b' T' vs' h' => by
  by_cases e : b' = b
  · subst e
    rw [h] at h'; injection h' with h'; injection h' with h1 h2
    subst h1 h2
    refine ⟨_, RM.set_self _ _ _, by simp, fun i x hx => ?_⟩
    by_cases e : j = i
    · subst e
      rw [hu] at hx; injection hx with hx; subst hx
      exact ⟨u', by rw [Array.getElem?_setIfInBounds, if_pos rfl, if_pos (Array.getElem?_eq_some_iff.1 hu).1], hk⟩
    · exact ⟨x, by rw [Array.getElem?_setIfInBounds, if_neg e]; exact hx, .inl rfl⟩
  · exact ⟨vs', by rw [RM.set_ne M _ e]; exact h', rfl, fun i x hx => ⟨x, hx, .inl rfl⟩⟩
theorem Kp.mono {d e : Nat} {M M' : RM} (h : Kp d M M') (hd : d ≤ e) : Kp e M M' := fun b T vs hb => by
  obtain ⟨v1, h1, h2, h3⟩ := h b T vs hb
  refine ⟨v1, h1, h2, fun j u hu => ?_⟩; obtain ⟨u', a, k⟩ := h3 j u hu; refine ⟨u', a, ?_⟩
  rcases k with k | k | ⟨s, s', k1, k2, k3⟩
  · exact .inl k
  · exact .inr (.inl k)
  · exact .inr (.inr ⟨s, s', k1, k2, by omega⟩)
end Go.Proofs.YtlapcfnmmpbeeaaGreat
